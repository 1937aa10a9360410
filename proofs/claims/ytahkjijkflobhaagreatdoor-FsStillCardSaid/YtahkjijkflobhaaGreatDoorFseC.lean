import Derived.LoopN
import Derived.Laws.AppendOwn
import Derived.Laws.IdiomCopy
import Derived.Test.YtahkjijkflobhaaGreatDoorProg
import Derived.Shelf.RegionOpenPlain
import Derived.WalkKit
import Derived.Below
import Derived.Deep.LoopGhost
import Derived.Deep.RegionLaw
import Derived.Deep.AppendSrc
import Derived.Lib.Walk
import Derived.Lib.SliceRun
import Derived.Lib.AppendZeros
import Derived.Lib.AppendZerosOnto
import Derived.Laws.NewBlocks
import Derived.Laws.Externs
import Derived.KernelRfl
import Derived.Shelf.SlSortCmp.WholeK
import Derived.Shelf.SlSortCmp.NoneTotal
import Derived.Shelf.SlicesG.Cmp
import Derived.Ground.SlsfProg
import Derived.Ground.SlgcProg
import Derived.Lib.Strings
import Derived.Lib.Slices
import Derived.Lib.Bytealg
import Derived.Shelf.Strings.Builder1
import Derived.Shelf.Strings.Builder2
import Derived.Shelf.Strings.OnBuilder
import Derived.Shelf.Small.Bits
import Derived.Shelf.Small.Strs
import Derived.Shelf.Strconv.Itoa0
import Derived.Shelf.Strings.Search1
import Derived.Laws.RangeString
import Derived.RangeFuncBox
import Derived.RangeFuncFrom
import Derived.RangeFuncLeaves
import Derived.Shelf.Abstract
import Derived.OwnWalkIn
import Derived.TacticsInMore
import Derived.LoopNIn
import Derived.LoopIn
import Derived.Maps.AppendAt
import Derived.RangeFuncNested
import Derived.Test.YtahkjijkflobhaaGreatDoorFseB
set_option linter.unusedSimpArgs false
set_option linter.unusedVariables false
set_option linter.unusedSectionVars false
set_option linter.defProp false
namespace Go.Abs
open Go Go.RowKit
variable [ew]
def Cp{F:Fence}{nd:Nat}{P:Program}{c:Code}{Q Q':Exit->Act->World->Prop}{n:Nat}{a:Act}{w:World}(h:Code.roundsIn F nd P c Q n a w)(hq:∀e a w,Q e a w->Q' e a w):Code.roundsIn F nd P c Q' n a w:=by
 induction n generalizing a w with
 |zero=>exact h
 |succ n ih =>
  refine wpIn_mono h fun e a' w' h'=>?_
  cases e<;>simp[Exit.then] at h' ⊢ <;> first|exact ih h'|exact hq _ _ _ h'
theorem gG{base:Nat}{M:aj}(hb:base<=M.length):(fh base M).length=base:=by grind [fh]
theorem eK{base:Nat}{M:aj}{i:Nat}(hi:i<base):(fh base M)[i]?=(M[i]?).map (aM.back base M):=by
 grind [fh]
theorem IX(base:Nat)(M:aj)(b:aM):(b.back base M).tag=b.tag:=by cases b<;>rfl
def Db(base:Nat)(M:aj)(b:aM):(b.back base M).fixed=b.fixed:=by cases b<;>rfl
def Dd{base:Nat}{M:aj}{b:aM}(h:b.loose=true):b.back base M=b:=by cases b<;>first|rfl|cases h
section
variable {base:Nat} {M:aj} {j:J} {w:World} (hb:base<=M.length)
include hb
def oG{b off:Nat}(h:fY j M w b off):fY j (fh base M) w b off:=by
 refine⟨h.lt,fun id hid hj=>?_,h.nx⟩
 rw[gG hb] at hid;obtain⟨sz,n,h1,h2⟩:=h.ids _ (by omega) hj
 exact⟨sz,n,by rw[eK hid,h1]; rfl,h2⟩
def fy:∀b off,fY j M w b off->fY j (fh base M) w b off/\w.cell? ⟨b,off,none⟩=w.cell? ⟨b,off,none⟩:=fun b off hs=>⟨oG hb hs,rfl⟩
def EK{id:Nat}(hlt:id<base)(hM:∀bx,M[id]?=some bx->bx.loose=true):(fh base M)[id]?=M[id]?:=by
 have h0:=List.getElem?_eq_getElem (show id<M.length by omega)
 rw[eK hlt,h0,Option.map_some,Dd (hM _ h0)]
variable (hr:Rel j M w)
include hr
theorem te{x:ae}{v:Value}(h:cC j M w x v):cC j (fh base M) w (x.dQ base M) v:=by
 cases h with
 |plain h =>
  have:x.dQ base M=x:=by cases h<;>rfl
  rw[this];exact .plain (h.mono (fy hb))
 |c0 A=>exact .c0 A
 | @own k xs v sz n hk hn hp ht =>
  simp only[ae.dQ];split
  ·rename_i hlt;exact .own (sz:=sz) (n:=n) (by rw[eK hlt,hk]; rfl) hn (hp.mono (fy hb)) ht
  ·exact .plain (hp.mono (fy hb))
 |agg=>exact .any _
 |tuple=>exact .any _
 | @ptr id off b hid hc hj =>
  simp only[ae.dQ];split
  ·rename_i hlt;obtain⟨cs,hc⟩:=hc;exact .ptr (by rw[gG hb]; omega) ⟨_,by rw[eK hlt,hc]; rfl⟩ hj
  ·exact .any _
 |dq h=>exact .dq fun k c hk=>⟨(h k c hk).1,oG hb (h k c hk).2.1,(h k c hk).2.2.mono (fy hb)⟩
 |func=>exact .any _
 | @cU id b hc hj =>
  simp only[ae.dQ];split
  ·rename_i hlt;obtain⟨ks,vs,hc⟩:=hc;exact .cU ⟨_,_,by rw[eK hlt,hc]; rfl⟩ hj
  ·exact .any _
 | @dD id b hc hj =>
  simp only[ae.dQ];split
  ·rename_i hlt;obtain⟨ks,vs,hc⟩:=hc;exact .dD ⟨_,_,by rw[eK hlt,hc]; rfl⟩ hj
  ·exact .any _
 |dI hlt hf hx hw hk hv hks hvs =>
  exact .dI hlt (fun i hi=>hf i (by rw[gG hb] at hi; omega)) hx hw hk hv (fun i k e h1 h2=>(hks i k e h1 h2).mono (fy hb)) (fun i k e h1 h2=>(hvs i k e h1 h2).mono (fy hb))
 | @dU t id off b hc hj =>
  simp only[ae.dQ];split
  ·rename_i hlt;obtain⟨cs,hc⟩:=hc;exact .dU ⟨_,by rw[eK hlt,hc]; rfl⟩ hj
  ·exact .any _
 |iM hl hd=>exact .iM hl fun i c v h1 h2=>(hd i c v h1 h2).mono (fy hb)
 | @aW id ver sz0 lo hi v h0 hid hM hv =>
  simp only[ae.dQ];split
  ·rename_i hlt;have e:=EK hb hlt hM;exact .aW h0 (by rw[gG hb]; omega) (fun bx hbx=>hM bx (e▸hbx)) fun sz v' xs h=>hv sz v' xs (e▸h)
  ·rename_i hge;split
   ·rename_i sz v' xs hMi;split
    ·rename_i he;subst he;obtain⟨_,k2⟩:=hv sz v' xs hMi;obtain⟨rfl,l1,l2,⟨rfl,_,A,rfl⟩|⟨b,cap,vs,t,l3,rfl,l5,l6,l7⟩⟩:=k2 rfl
     ·simp only[List.take_nil,List.drop_nil];exact .plain (cg.nil _ _ _)
     obtain⟨b',vs',t',g1,g2,g3,g4,g5⟩:=hr.rI hMi l3;rw[l3] at g1; cases g1;refine .plain (pw g2 g4 g5 (fun b off h=>oG hb h) (fun off _=>⟨hr.lt id b hid l3,fun id' hid' hj'=>?_,hr.mN id b hid l3 off⟩) l1 l2 l5)
     rw[gG hb] at hid';have:=hr.inj id' id b (by omega) hid hj' l3
     omega
    ·exact .any _
   ·exact .any _
 | @dk id ver i off v h0 hid hM hv =>
  simp only[ae.dQ];split
  ·rename_i hlt;have e:=EK hb hlt hM;exact .dk h0 (by rw[gG hb]; omega) (fun bx hbx=>hM bx (e▸hbx)) fun sz v' xs h=>hv sz v' xs (e▸h)
  ·exact .any _
 |any v=>exact .any v
theorem dx{x:ae}{v:Value}(h:cC j M w x v):cC j (fh base M) w (x.eH base M) v:=by
 by_cases hag:∃f cs,x = .func f cs
 ·obtain⟨f,caps,rfl⟩:=hag;obtain⟨vs,rfl,hl,hc⟩:=h.jY;refine .func (by grind) fun i c u hi hu=>?_
  rw[List.getElem?_map,Option.map_eq_some_iff] at hi;obtain⟨c0,hc0,rfl⟩:=hi
  grind [te]
 ·have e1:x.eH base M=x.dQ base M:=by cases x<;>first|rfl|grind
  grind [te]
theorem tf{x:ae}{v:Value}(h:cC j M w x v):cC j (fh base M) w (x.eJ base M) v:=by
 by_cases hag:∃cs,x = .agg cs
 ·obtain⟨cs,rfl⟩:=hag;obtain⟨vs,rfl,hl,hc⟩:=h.fB;refine .agg (by grind) fun i c u hi hu=>?_
  grind [dx]
 ·have e1:x.eJ base M=x.eH base M:=by cases x<;>first|rfl|grind
  grind [dx]
theorem Gu{x:ae}{v:Value}(h:cC j M w x v):cC j (fh base M) w (x.gx base M) v:=by
 by_cases hag:∃cs,x = .tuple cs
 ·obtain⟨cs,rfl⟩:=hag;obtain⟨vs,rfl,hl,hc⟩:=h.kW;refine .tuple (by grind) fun i c u hi hu=>?_
  grind [tf]
 ·have e1:x.gx base M=x.eJ base M:=by cases x<;>first|rfl|grind
  grind [tf]
theorem Gs{env:Env}{a:Act}(h:aN j M w env a):aN j (fh base M) w (rJ base M env) a:=by
 refine⟨fun t=>?_,h.gl.cV fun b off hs=>oG hb hs⟩
 have:dg (rJ base M env) t=(dg env t).gx base M:=by
  clear h hr hb;induction env with
  |nil=>rfl
  |cons p r ih =>
   grind [rJ,dg]
 rw[this];exact Gu hb hr (h.at' t)
theorem vL{x:ae}{v:Value}(h:cC j M w x v):cC j (fh base M) w (x.dY base M) v:=by
 cases x with
 |slice tk xs=>exact .plain (h.bw.mono (fy hb))
 |cU id =>
  simp only[ae.dY];split
  ·have:=te hb hr h;simp_all [ae.dQ]
  ·split
   ·rename_i ks vs hM;split
    ·rename_i hp;simp only[Bool.and_eq_true,List.all_eq_true] at hp;obtain⟨b,_,hj,rfl⟩:=h.nh;obtain⟨b',hj',es,clock,g1,g2,g3,g4,g5⟩:=hr.fix id _ hM rfl;have:b'=b:=by grind
     subst this;have hid  := aq hM
     exact .dI (hr.lt id _ hid hj) (fun i hi he=>by
      rw[gG hb] at hi;have:=hr.inj i id _ (by omega) hid he hj
      omega) (hr.mN id _ hid hj) g1 g2 g3 (fun i k e h1 h2=>(g4 i k e h1 h2).mono (fy hb))
      fun i u e h1 h2=>(vf.o4 (g5 i u e h1 h2) (hp.1 u (List.mem_of_getElem? h1))).mono (fy hb)
    ·exact .any _
   ·exact .any _
 |func f caps=>exact dx hb hr h
 |agg cs=>exact dx hb hr h
 |tuple cs=>exact dx hb hr h
 |bool b=>exact dx hb hr h
 |int k n=>exact dx hb hr h
 |str s=>exact dx hb hr h
 |ptr id off=>exact dx hb hr h
 |dq cs=>exact dx hb hr h
 |dD id=>exact dx hb hr h
 |aW id v sz lo hi=>exact dx hb hr h
 |dk id v i off=>exact dx hb hr h
 |iM f fs=>exact dx hb hr h
 |dU t id off=>exact dx hb hr h
 |dI ks vs=>exact dx hb hr h
 |raw v=>exact dx hb hr h
 |fQ v=>exact h.Eb.elim
 |any=>exact .any _
theorem vM{x:ae}{v:Value}(h:cC j M w x v):cC j (fh base M) w (x.eh base M) v:=by
 by_cases hag:∃cs,x = .agg cs
 ·obtain⟨cs,rfl⟩:=hag;obtain⟨vs,rfl,hl,hc⟩:=h.fB;refine .agg (by grind) fun i c u hi hu=>?_
  grind [vL]
 ·have e1:x.eh base M=x.dY base M:=by cases x<;>first|rfl|grind
  grind [vL]
theorem xP{x:ae}{v:Value}(h:cC j M w x v):cC j (fh base M) w (x.fC base M) v:=by
 by_cases hag:∃cs,x = .tuple cs
 ·obtain⟨cs,rfl⟩:=hag;obtain⟨vs,rfl,hl,hc⟩:=h.kW;refine .tuple (by grind) fun i c u hi hu=>?_
  grind [vM]
 ·have e1:x.fC base M=x.eh base M:=by cases x<;>first|rfl|grind
  grind [vM]
theorem Dc{b:Nat}{bx:aM}(h:Holds j M w b bx):Holds j (fh base M) w b (bx.back base M):=by
 cases bx with
 |cells cs =>
  obtain⟨vs,t,h1,h2,h3⟩:=h;refine⟨vs,t,h1,by grind,fun q c v hc hv=>?_⟩
  grind [dx]
 |tick=>trivial
 |map ks vs =>
  obtain⟨es,clock,h1,h2,h3,h4,h5⟩:=h;refine⟨es,clock,h1,h2,by grind,fun i k e hk he=>(h4 i k e hk he).mono (fy hb),fun i k e hk he=>?_⟩
  grind [tf]
 |fI s pos=>exact h
 |nz=>trivial
 |arr=>trivial
theorem rK:Rel j (fh base M) w:=by
 have ln:=gG hb;refine⟨fun i i' b hi hi'=>hr.inj i i' b (by omega) (by omega),fun i b hi=>hr.lt i b (by omega),fun i bx h hf=>?_,fun i sz n b h hj=>?_,fun i sz ver xs h=>?_,fun i b hi=>hr.mN i b (by omega),hr.tb⟩
 ·have hi:i<base:=by grind
  rw[eK hi,Option.map_eq_some_iff] at h;obtain⟨bx0,h1,rfl⟩:=h;obtain⟨b,g1,g2⟩:=hr.fix i bx0 h1 (by rw[<-Db base M]; omega)
  grind [Dc]
 ·have hi:i<base:=by rw[<-ln]; grind
  rw[eK hi,Option.map_eq_some_iff] at h;obtain⟨bx,h1,h2⟩:=h;cases bx with
  |tick sz0 n0=>exact hr.tick i sz0 n0 b h1 hj
  |cells cs=>cases h2
  |map ks vs=>cases h2
  |fI s p=>cases h2
  |nz=>cases h2
  |arr sz v xs=>cases h2
 ·have hi:i<base:=by rw[<-ln]; grind
  rw[eK hi,Option.map_eq_some_iff] at h;obtain⟨bx,h1,h2⟩:=h;cases bx with
  |arr sz0 v0 xs0 =>
   injection h2 with e1 e2 e3
   subst e1; subst e2; subst e3;obtain⟨g0,g1⟩|⟨b,vs,t,g1,g2,g3,g4,g5⟩:=hr.arr i _ _ _ h1
   ·grind
   exact .inr ⟨b,vs,t,g1,g2,g3,g4,fun q x k c hx hk=>(g5 q x k c hx hk).imp fun u hu=>⟨hu.1,hu.2.mono (fy hb)⟩⟩
  |cells cs=>cases h2
  |map ks vs=>cases h2
  |fI s p=>cases h2
  |nz=>cases h2
  |tick sz n=>cases h2
omit hr in
theorem oE{j0:J}{M0:aj}{w0:World}(h0:M0.length=base)(hx:Ext j0 M0 w0 j M w):Ext j0 M0 w0 j (fh base M) w where
 len:=by rw[gG hb]; omega
 size:=hx.size
 os:=hx.os
 tape:=hx.tape
 output:=hx.output
 X:=hx.X
 fix:=fun i bx h hf=>by
  obtain⟨h1,bx',h2,h3⟩:=hx.fix i bx h hf
  grind [aq,eK,IX,trans]
 tick:=fun i sz n h=>by
  obtain⟨n',h1,h2,h3⟩:=hx.tick i sz n h;have hi:i<base:=by grind
  exact⟨n',h1,by rw[eK hi,h2]; rfl,h3⟩
 arr:=fun i sz v xs h=>by
  have hi:i<base:=by grind
  rcases hx.arr i sz v xs h with ⟨n',g⟩|⟨v',xs',g1,g2⟩
  ·exact .inl ⟨n',by rw[eK hi,g]; rfl⟩
  ·exact .inr ⟨v',xs',by rw[eK hi,g1]; rfl,g2⟩
 tags:=hx.tags
 cV:=fun b off h=>⟨oG hb (hx.cV b off h).1,(hx.cV b off h).2⟩
 nA:=fun b hlt h=>⟨(hx.nA b hlt h).1,fun i hi=>(hx.nA b hlt h).2 i (by rw[gG hb] at hi; omega)⟩
end
def QQ(A:xn)(j:J)(M:aj)(w:World)(a:Act)(o:Out):Exit->Act->World->Prop:=fun e a' w' =>
 e=jw o.e/\a'.tmps.size=A.n/\a'.defers=a.defers/\∃j',Rel j' o.mem w'/\aN j' o.mem w' o.env a'/\Ext j M w j' o.mem w'
theorem uc{A:xn}{j:J}{M:aj}{w:World}{a:Act}{o:Out}{live:List Nat}{a':Act}{w':World}{j':J}(h1:Rel j' o.mem w')(h2:aN j' o.mem w' o.env a')(h3:Ext j M w j' o.mem w')(h4:a'.tmps.size=A.n)
  (h5:a'.defers=a.defers):QQ A j M w a (o.jc live) (jw o.e) a' w':=by
 obtain⟨e,env,M'⟩:=o;cases e
 case normal=>exact⟨rfl,h4,h5,j',h1,h2.jc _,h3⟩
 all_goals exact⟨rfl,h4,h5,j',h1,h2,h3⟩
section
variable {P:Program} {C:bL} {A:xn}
theorem fi(hmix:P.follows .mixedOrders=true)(hC:im P C){rd:Option Nat}{nd:Nat}:∀(c:Code){ac:aO},comp P A c=some ac->∀ {env:Env} {M:aj} {o:Out},bQ C ac env M=some o->∀ {j:J} {w:World} {a:Act},Rel j M w->ke j M w->aN j M w env a ->
  a.tmps.size=A.n->c.wpIn (Wd rd) nd P (QQ A j M w a o) a w
 | .skip,ac,hc,env,M,o,h,j,w,a,hr,hG,he,hs=>by
  simp only[comp] at hc; cases hc;simp only[bQ] at h; cases h;exact wpIn_skip ⟨rfl,hs,rfl,j,hr,he,Ext.refl j M w⟩
 | .exit id,ac,hc,env,M,o,h,j,w,a,hr,hG,he,hs=>by
  simp only[comp] at hc; cases hc;simp only[bQ] at h; cases h;exact wpIn_exit ⟨rfl,hs,rfl,j,hr,he,Ext.refl j M w⟩
 | .ret,ac,hc,env,M,o,h,j,w,a,hr,hG,he,hs=>by
  simp only[comp] at hc; cases hc;simp only[bQ] at h; cases h;exact wpIn_ret ⟨rfl,hs,rfl,j,hr,he,Ext.refl j M w⟩
 | .region id ops draw,ac,hc,env,M,o,h,j,w,a,hr,hG,he,hs=>by
  simp only[comp] at hc;cases draw with
  |true =>
   simp only[if_true] at hc;obtain⟨l0,hl0,hc⟩:=aw hc;obtain⟨l,hl,hc⟩:=aw hc;cases hc;simp only[bQ] at h;obtain⟨x,hx,h⟩:=az h
   grind [Cn,uc]
  |false =>
   simp only[Bool.false_eq_true,if_false] at hc;obtain⟨l,hl,hc⟩:=aw hc;cases hc;simp only[bQ] at h;obtain⟨x,hx,h⟩:=az h;cases h;refine wpIn_region ?_;rw[List.range_eq_range'];exact pK hC (grow:=[]) ops.toList 0 (by rfl) hl hx hr hG he hs fun a' w' j' h1 h2 h3 h4 h5=>uc h1 h2 h3 h4 h5
 | .seq x y,ac,hc,env,M,o,h,j,w,a,hr,hG,he,hs=>by
  simp only[comp] at hc;obtain⟨ax,hx,hc⟩:=aw hc;obtain⟨ay,hy,hc⟩:=aw hc;cases hc;simp only[bQ] at h;obtain⟨o1,h1,h⟩:=az h;refine wpIn_seq (wpIn_mono (fi hmix hC x hx h1 hr hG he hs) ?_);rintro e a1 w1 ⟨he1,hs1,hd1,j1,r1,e1,x1⟩;rcases lu h with ⟨hn,h2⟩|⟨hn,h2⟩
  ·rw[hn] at he1;subst he1;refine wpIn_mono (fi hmix hC y hy h2 r1 (hG.mono x1) e1 hs1) ?_;rintro e a2 w2 ⟨he2,hs2,hd2,j2,r2,e2,x2⟩;exact⟨he2,hs2,hd2.trans hd1,j2,r2,e2,x1.trans x2⟩
  ·subst h2;have:jw o.e ≠ .normal:=by cases ho:o.e<;>simp_all [jw]
   subst he1
   cases hx:jw o.e<;>first
    |exact absurd hx this
    |(simp only[Exit.then]; exact⟨hx.symm,hs1,hd1,j1,r1,e1,x1⟩)
 | .cond c x y,ac,hc,env,M,o,h,j,w,a,hr,hG,he,hs=>by
  simp only[comp] at hc;obtain⟨cc,hcc,hc⟩:=aw hc;obtain⟨ax,hx,hc⟩:=aw hc;obtain⟨ay,hy,hc⟩:=aw hc;cases hc;simp only[bQ] at h;have h1:=aZ he hcc;split at h
  ·rename_i t ht;rw[ht] at h1;rcases dW h with ⟨rfl,h⟩|⟨rfl,h⟩
   ·exact wpIn_cond_true h1.dy (fi hmix hC x hx h hr hG he hs)
   ·exact wpIn_cond_false h1.dy (fi hmix hC y hy h hr hG he hs)
  grind
 | .block id c,ac,hc,env,M,o,h,j,w,a,hr,hG,he,hs=>by
  simp only[comp] at hc;obtain⟨ax,hx,hc⟩:=aw hc;cases hc;simp only[bQ] at h;obtain⟨o1,h1,h⟩:=az h;cases h;refine wpIn_block (wpIn_mono (fi hmix hC c hx h1 hr hG he hs) ?_);rintro e a1 w1 ⟨he1,hs1,hd1,j1,r1,e1,x1⟩;subst he1;cases ho:o1.e with
  |normal=>simp only[jw,Exit.inBlock]; refine⟨?_,hs1,hd1,j1,?_⟩<;>simp[oj,ho,jw,r1,e1,x1]
  |ret=>simp only[jw,Exit.inBlock]; refine⟨?_,hs1,hd1,j1,?_⟩<;>simp[oj,ho,jw,r1,e1,x1]
  |fQ v=>simp only[jw,Exit.inBlock]; refine⟨?_,hs1,hd1,j1,?_⟩<;>simp[oj,ho,jw,r1,e1,x1]
  |exit i =>
   simp only[jw,Exit.inBlock]
   by_cases hi:i=id
   ·rw[if_pos hi]; refine⟨?_,hs1,hd1,j1,?_⟩<;>simp[oj,ho,jw,hi,r1,e1,x1]
   ·rw[if_neg hi]; refine⟨?_,hs1,hd1,j1,?_⟩<;>simp[oj,ho,jw,hi,r1,e1,x1]
 | .loop c,ac,hc,env,M,o,h,j,w,a,hr,hG,he,hs=>by
  simp only[comp] at hc;obtain⟨ax,hx,hc⟩:=aw hc;cases hc;simp only[bQ] at h;obtain⟨n,hn⟩:=nM h;refine wpIn_loop_rounds n ?_
  have key:∀n env M j1 w1 a1,iter (bQ C ax) (find A.lp (gb c)) n env M=some o->Rel j1 M w1->ke j1 M w1->aN j1 M w1 env a1->a1.tmps.size=A.n ->
    Code.roundsIn (Wd rd) nd P c (QQ A j1 M w1 a1 o) n a1 w1:=by
   intro n;induction n with
   |zero=>intro env M j1 w1 a1 h; cases h
   |succ n ih =>
    intro env M j1 w1 a1 h r1 hG1 e1 s1;rw[iter] at h;obtain⟨o1,h1,h⟩:=az h;rw[roundsIn_succ];refine wpIn_mono (fi hmix hC c hx h1 r1 hG1 (e1.jc _) s1) ?_;rintro e a2 w2 ⟨he2,hs2,hd2,j2,r2,e2,x2⟩;rcases lu h with ⟨hn,h2⟩|⟨hn,h2⟩
    ·rw[hn] at he2;subst he2;have:=ih _ _ j2 w2 a2 h2 (rK x2.len r2) (hG1.mono (oE x2.len rfl x2)) (Gs x2.len r2 (e2.jc _)) hs2;simp only[jw,Exit.then]
     exact Cp this fun e a3 w3 ⟨g1,g2,g3,j3,g4,g5,g6⟩=>⟨g1,g2,g3.trans hd2,j3,g4,g5,(oE x2.len rfl x2).trans g6⟩
    ·subst h2;have:jw o.e ≠ .normal:=by cases ho:o.e<;>simp_all [jw]
     subst he2
     cases hx:jw o.e<;>first
      |exact absurd hx this
      |(simp only[Exit.then]; exact⟨hx.symm,hs2,hd2,j2,r2,e2,x2⟩)
  grind
 | .rangeFunc ..,ac,hc,env,M,o,h,j,w,a,hr,hG,he,hs=>by grind [comp]
 | .scope _,ac,hc,env,M,o,h,j,w,a,hr,hG,he,hs=>by grind [comp]
 | .label _,ac,hc,env,M,o,h,j,w,a,hr,hG,he,hs=>by grind [comp]
 | .goto _,ac,hc,env,M,o,h,j,w,a,hr,hG,he,hs=>by grind [comp]
 | .refuse _,ac,hc,env,M,o,h,j,w,a,hr,hG,he,hs=>by simp_all [comp]
theorem vy{env:Env}{M:aj}{j:J}{w:World}{a:Act}(hr:Rel j M w)(he:aN j M w env a):∀ {rs:List ResultVar} {ars:List km} {l:List ae},AJ P rs=some ars->ki env M ars=some l ->
  ∃vs:List Value,(rs.mapM fun r=>(match r with | .tmp t=>pure (a.tmps.getD t undef) | .cell q t=>do loadVar t (<-asAddr (a.tmps.getD q undef)):Sem Value)).run P w = .ok vs w/\l.length=vs.length /\
   ∀(i:Nat)(c:ae)(v:Value),l[i]?=some c->vs[i]?=some v->cC j M w c v
 | [],ars,l,h1,h2=>by
  simp_all [AJ,ki]
 | .tmp t::rs,ars,l,h1,h2=>by
  simp only[AJ] at h1;obtain⟨ars',h3,h1⟩:=aw h1;cases h1;simp only[ki,w9,aI] at h2;obtain⟨l',h4,h2⟩:=az h2;cases h2;obtain⟨vs,g1,g2,g3⟩:=vy hr he h3 h4
  refine⟨a.tmps.getD t undef::vs,by
   rw[List.mapM_cons,Sem.run_bind];simp_all,by simp[g2],fun i c v hc hv=>?_⟩
  cases i with
  |zero=>simp only[List.getElem?_cons_zero,Option.some.injEq] at hc hv; subst hc; subst hv; exact he.at' t
  |succ i=>grind
 | .cell q t::rs,ars,l,h1,h2=>by
  simp only[AJ] at h1;obtain⟨g,hg,h1⟩:=aw h1;obtain⟨n,hn,h1⟩:=aw h1;obtain⟨ars',h3,h1⟩:=aw h1;cases h1;simp only[ki] at h2;obtain⟨c0,hc0,h2⟩:=az h2;obtain⟨l',h4,h2⟩:=az h2;cases h2;obtain⟨vs,g1,g2,g3⟩:=vy hr he h3 h4;have hq:=he.at' q
  have hload:∃v,(do loadVar t (<-asAddr (a.tmps.getD q undef)):Sem Value).run P w = .ok v w/\cC j M w c0 v:=by
   cases g with
   |true =>
    simp only[if_true,w9] at hc0;split at hc0
    ·rename_i id off e;rw[e] at hq;obtain⟨b,_,_,hj,hv⟩:=hq.ic;rw[cf] at hc0;split at hc0
     ·rename_i cs hM;split at hc0
      ·rename_i hle;cases hc0;obtain⟨us,t0,hw,hl,hcs,hcell⟩:=oH hr hM hj
       have hrun:=gW (P:=P) (w:=w) b off n (fun k=>(us[off+k]?).getD undef) fun k hk=>by
        rw[hcell,Array.getElem?_eq_getElem (by omega)]; simp
       refine⟨_,by simp only[hv,asAddr,Sem.run_bind,Sem.run_pure,Result.andThen_ok,loadVar,eM hg,if_true,dz hn,hrun]; rfl,.agg (by simp; omega) fun p c u hc hu=>?_⟩
       grind
      ·cases hc0
     ·cases hc0
    ·cases hc0
   |false =>
    simp only[Bool.false_eq_true,if_false,w9] at hc0;split at hc0
    ·rename_i id off e;rw[e] at hq;obtain⟨b,_,_,hj,hv⟩:=hq.ic;rw[cf] at hc0;split at hc0
     ·rename_i cs hM;rw[cf] at hc0;obtain⟨us,t0,hw,hl,hcs,hcell⟩:=oH hr hM hj;have hlt:=aq hc0;have hu:us[off]?=some (us[off]'(by omega)):=Array.getElem?_eq_getElem (by omega)
      exact⟨_,by simp[hv,asAddr,loadVar,eM hg,hcell,hu],hcs _ _ _ hc0 hu⟩
     ·cases hc0
    ·cases hc0
  obtain⟨v0,hv0,hr0⟩:=hload;refine⟨v0::vs,?_,by simp[g2],fun i c v hc hv=>?_⟩
  ·rw[List.mapM_cons,Sem.run_bind,hv0];simp_all
  grind
def tH:∀(args:List ae)(i t:Nat),dg (bW i args) t=if i<=t then (args[t-i]?).getD .any else .any
 | [],i,t=>by simp[bW,dg]
 |v::r,i,t=>by
  rw[bW,dg,tH r (i+1) t]
  by_cases h:i=t
  ·subst h; simp
  ·rw[if_neg h]
   by_cases h2:i<=t
   ·rw[if_pos (by omega),if_pos h2,show t-i=(t-(i+1))+1 by omega]; simp
   ·rw[if_neg (by omega),if_neg h2]
def FM{j:J}{M:aj}{w:World}:∀ {l:List ae} {us:List Value},l.length=us.length->(∀(i:Nat)(c:ae)(v:Value),l[i]?=some c->us[i]?=some v->cC j M w c v) ->
  cC j M w (one l) (if h:us.toArray.size=1 then us.toArray[0] else .tuple us.toArray)
 | [c0],[v0],_,h=>by simpa[one] using h 0 c0 v0 rfl rfl
 | [],[],_,_=>by simpa[one] using(cC.tuple (j:=j) (M:=M) (w:=w) (cs:=[]) (vs := #[]) rfl fun i c v h=>by simp at h)
 |c0::c1::r,v0::v1::s,hl,h=>by
  have:¬(v0::v1::s).toArray.size=1:=by simp
  rw[dif_neg this];exact .tuple (by simpa using hl) fun i c v h1 h2=>h i c v h1 (by simpa using h2)
 | [],_::_,hl,_=>by simp at hl
 | [_],[],hl,_=>by simp at hl
 | [_],_::_::_,hl,_=>by simp at hl
 |_::_::_,[],hl,_=>by simp at hl
 |_::_::_,[_],hl,_=>by simp at hl
def Lk(hmix:P.follows .mixedOrders=true)(hC:im P C){f:Nat}{fn:bD}{A:xn}{func:Func}(hf:P.funcs[f]?=some func)(hc:iq P A func=some fn){args:List ae}{M:aj}{x:ae×aj}
  (hl:args.length=fn.nparams) (h:aG (bQ C fn.body (bW 0 args) M) (finish fn.results M.length)=some x):fz P f=true/\bn P f args M x:=by
 unfold iq at hc;split at hc
 ·cases hc
 ·rename_i c hbody;split at hc
  ·rename_i hcond;obtain⟨hname,hn,hle⟩:=hcond;obtain⟨b,hb,hc⟩:=aw hc;obtain⟨rs,hrs,hc⟩:=aw hc;cases hc;refine⟨by simp[fz,hf,hbody,hname],fun j w vs hr hG hlen hv=>?_⟩
   obtain⟨o,ho,hfin⟩:=az h;simp only at hl;refine calls_of_wp hf hbody ?_;have hsz:(vs++Array.replicate (func.ntmps-vs.size) undef).size=A.n:=by simp; omega
   have he:aN j M w (bW 0 args) { tmps:=vs++Array.replicate (func.ntmps-vs.size) undef,defers:=[] }:=by
    refine⟨fun t=>?_,hG⟩
    rw[tH,if_pos (Nat.zero_le _),Nat.sub_zero];rcases Nat.lt_or_ge t args.length with ht|ht
    ·have h1:=List.getElem?_eq_getElem ht;have hlt:t<vs.size:=by omega
     have h2:=Array.getElem?_eq_getElem hlt;rw[h1];have h3:=hv t _ _ h1 h2
     have:(vs++Array.replicate (func.ntmps-vs.size) undef).getD t undef=vs[t]:=by
      simp[Array.getD_eq_getD_getElem?,Array.getElem?_append_left hlt,h2]
     rw[this];exact h3
    ·rw[List.getElem?_eq_none ht]; exact .any _
   refine wp_mono (wpIn_wide.1 (fi (rd:=none) (nd:=0) hmix hC c hb ho hr hG he hsz)) ?_;rintro e a' w' ⟨he1,hs1,hd1,j1,r1,e1,x1⟩
   by_cases hpan:∃u,o.e = .fQ u
   ·obtain⟨u,hu⟩:=hpan;rw[hu] at he1; subst he1;simp only[finish,hu] at hfin;cases hfin;exact⟨hd1,.inr ⟨u,rfl,rfl,j1,rK x1.len r1,oE x1.len rfl x1⟩⟩
   have hno:∀i,o.e ≠ .exit i:=by
    intro i hi;simp[finish,hi] at hfin
   have hfin':aG (ki o.env o.mem rs) (fun l=>some ((one l).fC M.length o.mem,fh M.length o.mem))=some x:=by
    unfold finish at hfin;split at hfin
    ·rename_i i hi; exact absurd hi (hno i)
    ·rename_i u hu; exact absurd ⟨u,hu⟩ hpan
    ·exact hfin
   obtain⟨l,hl',hfin'⟩:=az hfin';cases hfin';obtain⟨us,u1,u2,u3⟩:=vy (P:=P) r1 e1 hrs hl';have hbase:M.length<=o.mem.length:=x1.len
   have hres:(results func a'.tmps).run P w' = .ok (if h:us.toArray.size=1 then us.toArray[0] else .tuple us.toArray) w':=by
    unfold results;rw[Array.mapM_eq_mapM_toList,Sem.run_bind,Sem.run_map];refine Eq.trans (congrArg (fun r:Result (List Value)=>Result.andThen (r.andThen fun a w' => .ok a.toArray w') _) (Eq.trans ?_ u1)) rfl
    rfl
   have hone:cC j1 o.mem w' (one l) (if h:us.toArray.size=1 then us.toArray[0] else .tuple us.toArray):=by
    exact FM u2 u3
   have hfinal:∃v,(results func a'.tmps).run P w' = .ok v w'/\nB j M w ((one l).fC M.length o.mem,fh M.length o.mem) (.returned v) w' :=
    ⟨_,hres,.inl ⟨_,rfl,j1,rK hbase r1,oE hbase rfl x1,xP hbase r1 hone⟩⟩
   cases hoe:o.e with
   |exit i=>exact absurd hoe (hno i)
   |fQ u=>exact absurd ⟨u,hoe⟩ hpan
   |normal=>rw[hoe] at he1; subst he1; exact⟨hd1,hfinal⟩
   |ret=>rw[hoe] at he1; subst he1; exact⟨hd1,hfinal⟩
  ·cases hc
structure oC(P:Program)(T:rD):Prop where
 code:∀f fn,T.code f=some fn->∃A func,P.funcs[f]?=some func/\iq P A func=some fn
 fZ:∀f g,T.fZ f=some g->∀args M x,g args M=some x->fz P f=true/\bn P f args M x
def rF(hmix:P.follows .mixedOrders=true){T:rD}(hT:oC P T):∀n,im P (dN T n)
 |0,f,args,M,x,h=>by
  unfold dN at h;split at h
  ·rename_i g hg; exact hT.fZ f g hg args M x h
  ·cases h
 |n+1,f,args,M,x,h=>by
  rw[dN] at h;split at h
  ·rename_i g hg; exact hT.fZ f g hg args M x h
  ·split at h
   ·cases h
   ·rename_i fn hfn;split at h
    ·rename_i hl;obtain⟨A,func,h1,h2⟩:=hT.code f fn hfn;exact Lk hmix (rF hmix hT n) h1 h2 hl h
    ·cases h
def ma(hmix:P.follows .mixedOrders=true){T:rD}(hT:oC P T):im P (ag T):=fun f args M x h=>by
 obtain⟨n,hn⟩:=nM h;exact rF hmix hT n f args M x hn
end
section
variable {j:J} {M:aj} {w w':World}
def gd(b:Nat):∀(l:List Value)(o:Nat)(w:World),w.setCells b o l=gR w b o l
 | [],_,_=>rfl
 |v::r,o,w=>by rw[World.setCells,gR,gd b r]
end
noncomputable def fq(sz bytes:Nat):List ae->aj->Option (ae×aj)
 | [.slice _ xs],M=>match xs with
  | []=>some (.slice .c0 [],M)
  |x::r=>aQ (wid (x::r) sz/\aP (x::r).length bytes) (some (.aW M.length 0 sz 0 (x::r).length,M++[.arr sz 0 (x::r)]))
 |_,_=>none
noncomputable def Cd(sz bytes:Nat):List ae->aj->Option (ae×aj)
 | [.slice _ xs],M=>aQ (wid xs sz/\aP xs.length bytes) (some (.slice .sh xs,M))
 |_,_=>none
noncomputable def jR(sz bytes:Nat):List ae->aj->Option (ae×aj)
 | [.slice _ xs],M=>aQ (wid xs sz/\aP xs.length bytes) (some (.slice (.own M.length) xs,M++[.tick sz xs.length]))
 |_,_=>none
noncomputable def eL(sz:Nat):List ae->aj->Option (ae×aj)
 | [.aW id ver sz' lo hi,.int .i64 i,.int .i64 i'],M=>match nth M id with
  |some (.arr sz0 v xs)=>aQ (v=ver/\sz'=sz/\lo=0/\hi=xs.length/\0<=i/\i.toNat<xs.length/\i'=i+1/\xs.length<=2 ^ 44)
    (some (.aW id (ver+1) sz 0 (xs.length-1),dA M id (.arr sz0 (ver+1) (xs.take i.toNat++xs.drop (i.toNat+1)))))
  |_=>none
 |_,_=>none
noncomputable def eD(sz bytes:Nat):List ae->aj->Option (ae×aj)
 | [.aW id ver sz' lo hi,.int .i64 i,.slice _ [e]],M=>match nth M id with
  |some (.arr sz0 v xs)=>aQ (v=ver/\sz'=sz/\lo=0/\hi=xs.length/\0<=i/\i.toNat<=xs.length/\e.cells.length=sz/\aP (xs.length+1) bytes)
    (some (.aW id (ver+1) sz 0 (xs.length+1),dA M id (.arr sz0 (ver+1) (xs.take i.toNat++e::xs.drop i.toNat))))
  |_=>none
 | [.slice .c0 [],.int .i64 i,.slice _ [e]],M=>aQ (i=0/\e.cells.length=sz) (some (.aW M.length 0 sz 0 1,M++[.arr sz 0 [e]]))
 |_,_=>none
def rE(P:Program)(f:Nat)(E:TypeId)(sz bytes:Nat):Prop:=∀(b off n c:Nat)(news:List Value)(w:World),news.length=n*sz->n<=maxLen->n*bytes<=140737488355328->(∀j u,news[j]?=some u->w.cell? ⟨b,off+j,none⟩=some u)->(∀u∈news,u.oneCell'=true) ->
 Calls P f #[.slice (some ⟨b,off,none⟩) n c] w fun e w'=>∃v',e = .returned v'/\w'.ownsRow w.heap.size E sz v' n news/\v' ≠ .slice none 0 0/\Below w.heap.size w w'
def oA(P:Program)(f:Nat):Prop:=∀(A:Option Addr)(c:Nat)(w:World),Calls P f #[.slice A 0 c] w fun e w'=>(∃B,e = .returned (.slice B 0 0))/\Below w.heap.size w w'
def Uf(P:Program)(f sz:Nat)(z:List Value):Prop:=∀(blk cap i i' n:Nat)(cs:List Value)(w:World),cs.length=n*sz->n<=cap->n<=9223372036854775807->i<n->i'=i+1 ->
 (∀p v,cs[p]?=some v->w.cell? ⟨blk,p,none⟩=some v/\w.frozen? ⟨blk,p,none⟩=false/\v.oneCell'=true) ->
 Calls P f #[.slice (some ⟨blk,0,none⟩) n cap,.int .i64 i,.int .i64 i'] w fun e w'=>e = .returned (.slice (some ⟨blk,0,none⟩) (n-1) cap) /\
  w'=(w.drew.setCells blk (i*sz) (cs.drop (i'*sz))).setCells blk ((n-1)*sz) z
def pq(sz:Nat)(w:World)(b:Nat)(row:Array Value)(t:TypeId)(n i:Nat)(cs vs:List Value)(e:Ending)(w':World):Prop :=
 ∃b' cap' row' t',e = .returned (.slice (some ⟨b',0,none⟩) (n+1) cap')/\n+1<=cap'/\w'.heap[b']?=some (.cells row' t' (0,0))/\cap'*sz<=row'.size /\
  (∀p,p<(n+1)*sz->row'[p]?=(cs.take (i*sz)++(vs++cs.drop (i*sz)))[p]?)/\Quiet w w' /\
  ((b'=b/\t'=t/\row'.size=row.size/\∀b0,b0≠b->b0<w.heap.size->w'.heap[b0]?=w.heap[b0]?)\/(w.heap.size<=b'/\∀b0,b0<w.heap.size->w'.heap[b0]?=w.heap[b0]?))
def IA(P:Program)(f sz bytes:Nat):Prop:=∀(b n c i vb voff vc:Nat)(cs vs:List Value)(w:World)(row:Array Value)(t:TypeId),i<=n->n<=c->(n+1)*bytes<=140737488355328->n+1<=9223372036854775807->vb≠b->cs.length=n*sz->vs.length=sz->w.heap[b]?=some (.cells row t (0,0))->c*sz<=row.size ->
 (∀(p:Nat)(v:Value),cs[p]?=some v->row[p]?=some v)->(∀(p:Nat)(v:Value),vs[p]?=some v->w.cell? ⟨vb,voff+p,none⟩=some v)->(∀v∈cs,v.oneCell'=true)->(∀v∈vs,v.oneCell'=true) ->
 Calls P f #[.slice (some ⟨b,0,none⟩) n c,.int .i64 i,.slice (some ⟨vb,voff,none⟩) 1 vc] w (pq sz w b row t n i cs vs)
def IB(P:Program)(f sz:Nat):Prop:=∀(A:Option Addr)(vb voff vc:Nat)(vs:List Value)(w:World)(row:Array Value),vs.length=sz->(∀(p:Nat)(v:Value),vs[p]?=some v->w.cell? ⟨vb,voff+p,none⟩=some v)->(∀v∈vs,v.oneCell'=true) ->
 Calls P f #[.slice A 0 0,.int .i64 0,.slice (some ⟨vb,voff,none⟩) 1 vc] w fun e w'=>pq sz w w.heap.size row 0 0 0 [] vs e w'
section
variable {P:Program} {f:Nat} {sz bytes:Nat} {E:TypeId}
def xk{α:Type}{vs:Array α}{p q r:ae}(h:[p,q,r].length=vs.size):∃a b c,vs = #[a,b,c]:=by
 obtain⟨l⟩:=vs
 match l,h with
 | [a,b,c],_=>exact⟨a,b,c,rfl⟩
def vw{α:Type}{vs:Array α}{p:ae}(h:[p].length=vs.size):∃a,vs = #[a]:=by
 obtain⟨l⟩:=vs
 match l,h with
 | [a],_=>exact⟨a,rfl⟩
def cC.pd{j:J}{M:aj}{w:World}{tk:Tk}{xs:List ae}{v:Value}(h:cC j M w (.slice tk xs) v):cg w (fY j M w) (.slice .sh xs) v:=h.bw
def jW(hsz:0<sz)(hby:bytes*8<=2 ^ 20/\0<bytes)
  (hC:rE P f E sz bytes) (h0:oA P f)
  {args:List ae} {M:aj} {x:ae×aj} (h:fq sz bytes args M=some x):bn P f args M x:=by
 unfold fq at h;split at h
 ·refine fS.call ?_;intro j w vs hr hG hl hv;obtain⟨u,rfl⟩:=vw hl;have h1:=(hv 0 _ u rfl rfl).pd;split at h
  ·cases h;obtain⟨A,cap,rfl,_,_⟩:=fW (size:=sz) h1 (fun y hy=>by cases hy)
   refine(h0 A cap w).mono ?_;rintro e w' ⟨⟨B,rfl⟩,hb⟩;exact⟨_,j,rfl,hr.grow hb.size hb.os hb.tape hb.output hb.block,Ext.grow hb.size hb.os hb.tape hb.output hb.block,.c0 _⟩
  ·rename_i y r;obtain⟨⟨hw,hroom⟩,h⟩:=bd h;cases h;obtain⟨A,cap,rfl,hcap,h2⟩:=fW h1 hw;obtain⟨b,off,rfl,us,hrl,hul,hone,hcell⟩:=h2.resolve_left (by simp)
   unfold aP at hroom;have hle:(y::r).length<=2 ^ 44:=Nat.le_trans (Nat.le_mul_of_pos_right _ hby.2) hroom;refine(hC b off (y::r).length cap us w hul (by unfold maxLen; omega) (by omega) (fun p u hp=>(hcell p u hp).1) hone).mono ?_
   rintro e w' ⟨v',rfl,⟨_,hown⟩,hnn,hb⟩;obtain⟨g,cap',cur,rfl,hg,hg',hn1,_,hcs,htk⟩:=hown.resolve_left (fun h=>hnn h.1)
   have q:Quiet w w':=⟨hb.size,hb.os,hb.tape,hb.output⟩;have hob:∀b,some g=some b->w.heap.size<=b/\b<w'.heap.size:=fun b h=>by cases h; exact⟨hg,lt_of_block hg'⟩
   have hcl:∀p,p<us.length->cur[p]?=us[p]?:=fun p hp=>by
    rw[<-htk,List.getElem?_take_of_lt (by rw[<-hul]; exact hp)]; simp
   have ext:Ext j M w (cH j M.length (some g)) (M++[.arr sz 0 (y::r)]) w':=Ext.push (fun b h=>(hob b h).1) q hb.block
   refine⟨_,cH j M.length (some g),rfl,hr.push hob q hb.block (fun h=>by cases h) (fun sz n b h _=>by cases h) (fun sz0 v0 xs0 he=>?_),ext,?_⟩
   ·injection he with e1 e2 e3
    subst e1; subst e3;have hat:∀j' M',Ext j M w j' M' w'->xJ j' M' w' g sz (y::r):=fun j' M' hx=>fg hg' hw (hrl.mono hx.cV) hcl
    refine .inr ⟨g,cur,E,rfl,hg',by rw[hcs]; exact Nat.mul_le_mul_right _ hn1,hw,fun j' M' hx q x k c hx' hk=>?_⟩
    obtain⟨vs,t,a1,a2,a3,a4⟩:=hat j' M' hx;rw[hg'] at a1; injection a1 with a1; injection a1 with a1 a1'
    subst a1;exact a4 q x k c hx' hk
   ·refine .aW (.inl ⟨g,0,cap',rfl,by omega⟩) (by simp) (fun bx hbx=>by rw[ft] at hbx; cases hbx; rfl) fun sz' v' xs hx=>?_
    rw[ft] at hx; injection hx with hx; injection hx with e1 e2 e3
    subst e1; subst e2; subst e3;exact⟨Nat.le_refl _,fun _=>⟨rfl,Nat.zero_le _,Nat.le_refl _,.inr ⟨g,cap',cur,E,by simp[cH],by simp,by omega,hg',by rw[Nat.zero_add]; omega⟩⟩⟩
 ·cases h
def Dw(hsz:0<sz)(hby:bytes*8<=2 ^ 20/\0<bytes)
  (hC:rE P f E sz bytes) (h0:oA P f)
  {args:List ae} {M:aj} {x:ae×aj} (h:Cd sz bytes args M=some x):bn P f args M x:=by
 unfold Cd at h;split at h
 ·rename_i tk xs;refine fS.call ?_;intro j w vs hr hG hl hv;obtain⟨u,rfl⟩:=vw hl;have h1:=(hv 0 _ u rfl rfl).pd;obtain⟨⟨hw,hroom⟩,h⟩:=bd h;cases h;obtain⟨A,cap,rfl,hcap,h2⟩:=fW h1 hw;rcases h2 with rfl|⟨b,off,rfl,us,hrl,hul,hone,hcell⟩
  ·refine(h0 A cap w).mono ?_;rintro e w' ⟨⟨B,rfl⟩,hb⟩;exact⟨_,j,rfl,hr.grow hb.size hb.os hb.tape hb.output hb.block,Ext.grow hb.size hb.os hb.tape hb.output hb.block,.plain (cg.nil _ _ _)⟩
  ·unfold aP at hroom;have hle:xs.length<=2 ^ 44:=Nat.le_trans (Nat.le_mul_of_pos_right _ hby.2) hroom;refine(hC b off xs.length cap us w hul (by unfold maxLen; omega) (by omega) (fun p u hp=>(hcell p u hp).1) hone).mono ?_
   rintro e w' ⟨v',rfl,⟨_,hown⟩,hnn,hb⟩;obtain⟨g,cap',cur,rfl,hg,hg',hn1,_,hcs,htk⟩:=hown.resolve_left (fun h=>hnn h.1)
   have ext:Ext j M w j M w':=Ext.grow hb.size hb.os hb.tape hb.output hb.block;refine⟨_,j,rfl,hr.grow hb.size hb.os hb.tape hb.output hb.block,ext,.plain ?_⟩
   have hcl:∀p,p<us.length->cur[p]?=us[p]?:=fun p hp=>by
    rw[<-htk,List.getElem?_take_of_lt (by rw[<-hul]; exact hp)]; simp
   obtain⟨vs,t,a1,a2,a3,a4⟩:=fg (j':=j) (M':=M) hg' hw (hrl.mono ext.cV) hcl;rw[hg'] at a1; injection a1 with a1; injection a1 with a1 a1'
   subst a1;have:=pw (lo:=0) (hi:=xs.length) (cap:=cap') (saf':=fY j M w') hg' a3 a4 (fun b off h=>h) (fun off ho=>⟨lt_of_block hg',fun id hid hji=>by have:=hr.lt id g hid hji; omega,fun hx=>by have:=hr.tb g off hx; omega⟩) (Nat.zero_le _) (Nat.le_refl _) (by omega)
   simpa using this
 ·cases h
def rN(hsz:0<sz)(hby:bytes*8<=2 ^ 20/\0<bytes)
  (hC:rE P f E sz bytes) (h0:oA P f)
  {args:List ae} {M:aj} {x:ae×aj} (h:jR sz bytes args M=some x):bn P f args M x:=by
 unfold jR at h;split at h
 ·rename_i tk xs;refine fS.call ?_;intro j w vs hr hG hl hv;obtain⟨u,rfl⟩:=vw hl;have h1:=(hv 0 _ u rfl rfl).pd;obtain⟨⟨hw,hroom⟩,h⟩:=bd h;cases h;obtain⟨A,cap,rfl,hcap,h2⟩:=fW h1 hw;rcases h2 with rfl|⟨b,off,rfl,us,hrl,hul,hone,hcell⟩
  ·refine(h0 A cap w).mono ?_;rintro e w' ⟨⟨B,rfl⟩,hb⟩;have q:Quiet w w':=⟨hb.size,hb.os,hb.tape,hb.output⟩;refine⟨_,cH j M.length none,rfl,hr.push (fun b h=>by cases h) q hb.block (fun h=>by cases h) (fun _ _ _ _ h=>by cases h),Ext.push (fun b h=>by cases h) q hb.block,?_⟩
   refine .own (ft ..) (Nat.le_refl _) (cg.nil _ _ _) fun _ => .inl ⟨by simp[cH],rfl,B,rfl⟩
  ·unfold aP at hroom;have hle:xs.length<=2 ^ 44:=Nat.le_trans (Nat.le_mul_of_pos_right _ hby.2) hroom;refine(hC b off xs.length cap us w hul (by unfold maxLen; omega) (by omega) (fun p u hp=>(hcell p u hp).1) hone).mono ?_
   rintro e w' ⟨v',rfl,⟨_,hown⟩,hnn,hb⟩;obtain⟨g,cap',cur,rfl,hg,hg',hn1,_,hcs,htk⟩:=hown.resolve_left (fun h=>hnn h.1)
   have q:Quiet w w':=⟨hb.size,hb.os,hb.tape,hb.output⟩;have hob:∀b,some g=some b->w.heap.size<=b/\b<w'.heap.size:=fun b h=>by cases h; exact⟨hg,lt_of_block hg'⟩
   have ext:Ext j M w (cH j M.length (some g)) (M++[.tick sz xs.length]) w':=Ext.push (fun b h=>(hob b h).1) q hb.block
   refine⟨_,cH j M.length (some g),rfl,hr.push hob q hb.block (fun h=>by cases h) (fun _ _ b _ h=>by cases h; exact⟨_,_,hg'⟩),ext,?_⟩
   have hcl:∀p,p<us.length->cur[p]?=us[p]?:=fun p hp=>by
    rw[<-htk,List.getElem?_take_of_lt (by rw[<-hul]; exact hp)]; simp
   obtain⟨vs,t,a1,a2,a3,a4⟩:=fg (j':=cH j M.length (some g)) (M':=M++[.tick sz xs.length]) hg' hw (hrl.mono ext.cV) hcl;rw[hg'] at a1; injection a1 with a1; injection a1 with a1 a1'
   subst a1
   have:=pw (lo:=0) (hi:=xs.length) (cap:=cap') (saf':=fY (cH j M.length (some g)) (M++[.tick sz xs.length]) w') hg' a3 a4 (fun b off h=>h) (fun off ho=>⟨lt_of_block hg',fun id hid hji=>by
    rcases Nat.lt_or_ge id M.length with hid'|hid'
    ·have hj:j id=some g:=by simpa[cH,Nat.ne_of_lt hid'] using hji
     have:=hr.lt id g hid' hj; omega
    ·have e:id=M.length:=by simp at hid; omega
     subst e;exact⟨sz,xs.length,ft ..,ho⟩,fun hx=>by have:=hr.tb g off hx; omega⟩) (Nat.zero_le _) (Nat.le_refl _) (by omega)
   refine .own (ft ..) (Nat.le_refl _) (by simpa using this) fun _ => .inr ⟨g,cap',cur,E,by simp[cH],by simp,hg',by omega,by omega⟩
 ·cases h
noncomputable def Zi(sz bytes:Nat)(args:List ae):aj->Option (ae×aj)
 | []=>Cd sz bytes args []
 |b::M=>fq sz bytes args (b::M)
def I1(hsz:0<sz)(hby:bytes*8<=2 ^ 20/\0<bytes)
  (hC:rE P f E sz bytes) (h0:oA P f)
  {args:List ae} {M:aj} {x:ae×aj} (h:Zi sz bytes args M=some x):bn P f args M x:=by
 cases M with
 |nil=>exact Dw hsz hby hC h0 h
 |cons b M=>exact jW hsz hby hC h0 h
def kB(hsz:0<sz){z:List Value}(hz:z.length=sz)
  (hD:Uf P f sz z)
  {args:List ae} {M:aj} {x:ae×aj} (h:eL sz args M=some x):bn P f args M x:=by
 unfold eL at h;split at h
 ·rename_i id ver sz' lo hi i i';rw[cf] at h;split at h
  ·rename_i sz0 v0 xs hM;obtain⟨hc,h⟩:=bd h;cases h;obtain⟨rfl,rfl,rfl,rfl,hi0,hin,rfl,hbig⟩:=hc;refine fS.call ?_;intro j w vs hr hG hl hv;obtain⟨u1,u2,u3,rfl⟩:=xk hl;have h2:=(hv 1 _ u2 rfl rfl).cq;have h3:=(hv 2 _ u3 rfl rfl).cq;subst h2; subst h3;obtain⟨_,hid,_,g⟩:=(hv 0 _ u1 rfl rfl).gw;obtain⟨e1,_,_,⟨rfl,l3,B,rfl⟩|⟨b,cap,row,t0,l3,l4,l5,l6,l7⟩⟩:=(g sz0 v0 xs hM).2 rfl
   ·exact absurd hin (by simp)
   subst e1; subst l4;obtain⟨b',row',t',k1,k2,k3,k4,k5⟩:=hr.rI hM l3;rw[l3] at k1; cases k1;rw[l6] at k2; injection k2 with k2; injection k2 with k2 k2'
   subst k2; subst k2';have hrow:=pv (b:=b) k3 k4 k5;rw[Nat.sub_zero] at l5;rw[Nat.zero_add] at l7;generalize hcs:row.toList.take (xs.length*sz0)=cs at hrow;have hcl:cs.length=xs.length*sz0:=by rw[<-hcs]; simp; omega
   have hat:∀p v,cs[p]?=some v->row[p]?=some v:=fun p v hp=>by
    have hlt:p<xs.length*sz0:=by rw[<-hcl]; exact aq hp
    rw[<-hcs,List.getElem?_take_of_lt hlt] at hp; simpa using hp
   obtain⟨m,rfl⟩:∃m:Nat,i=m:=⟨i.toNat,(Int.toNat_of_nonneg (by assumption)).symm⟩
   simp only[Int.toNat_natCast] at hin ⊢;have e0:((m:Int)+1)=((m+1:Nat):Int):=rfl;rw[Nat.sub_zero,Nat.zero_mul,e0];refine(hD b cap m (m+1) xs.length cs w hcl l5 (by omega) hin rfl (fun p v hp=>⟨by simp[World.cell?,l6,hat p v hp],by simp[World.frozen?,l6],?_⟩)).mono ?_
   ·have hp':p<(dR xs).length:=by rw[hrow.1]; exact aq hp
    exact cg.one (hrow.2 p _ v (List.getElem?_eq_getElem hp') hp)
   ·rintro e w' ⟨rfl,hw'⟩;rw[gd,gd] at hw';have hl1:(cs.drop ((m+1)*sz0)).length=(xs.length-(m+1))*sz0:=by rw[List.length_drop,hcl,Nat.sub_mul]
    have ha1:(m+1)*sz0=m*sz0+sz0:=by rw[Nat.add_mul,Nat.one_mul]
    have ha2:(xs.length-(m+1))*sz0=xs.length*sz0-(m*sz0+sz0):=by rw[Nat.sub_mul,ha1]
    have ha3:(xs.length-1)*sz0=xs.length*sz0-sz0:=by rw[Nat.sub_mul,Nat.one_mul]
    have ha4:m*sz0+sz0<=xs.length*sz0:=by rw[<-ha1]; exact Nat.mul_le_mul_right _ hin
    have hd:w.drew.heap=w.heap:=rfl;obtain⟨s1,s2,s3,s4,s5,r1,s6,s7,s8,s9⟩:=fc (t:=t0) (cs.drop ((m+1)*sz0)) w.drew (m*sz0) row (by rw[hd]; exact l6) (by rw[hl1]; omega)
    obtain⟨q1,q2,q3,q4,q5,r2,q6,q7,q8,q9⟩:=fc (t:=t0) z _ ((xs.length-1)*sz0) r1 s6 (by rw[hz,s7]; omega)
    rw[<-hw'] at q1 q2 q3 q4 q5 q6;have hwd:wid (xs.take m++xs.drop (m+1)) sz0:=fM (nw k4) (nv k4)
    have dw:RL w (fY j M w) (dR (xs.take m++xs.drop (m+1))) (cs.take (m*sz0)++cs.drop ((m+1)*sz0)):=by
     rw[gk,jG m k4,lq (m+1) k4];exact(hrow.take _).append (hrow.drop _)
    have htk:(cs.take (m*sz0)).length=m*sz0:=by rw[List.length_take,hcl]; omega
    have hput:=pt (ver':=v0+1) (xs':=xs.take m++xs.drop (m+1)) hr hM l3 (w':=w') ⟨by rw[q1,s1]; exact Nat.le_refl _,q2.trans s2,q3.trans s3,q4.trans s4⟩ (fun b' hb' _=>(q5 b' hb').trans (s5 b' hb')) l6 q6 (q7.trans s7) (by omega) (fun h=>by omega) hwd dw (fun p hp=>by
     rw[List.length_append,htk,hl1] at hp;rw[q8 p (.inl (by omega))]
     rcases Nat.lt_or_ge p (m*sz0) with c1|c1
     ·rw[s8 p (.inl c1),List.getElem?_append_left (by rw[htk]; exact c1),List.getElem?_take_of_lt c1]
      have hp1:p<cs.length:=by omega
      rw[hat p _ (List.getElem?_eq_getElem hp1),List.getElem?_eq_getElem hp1]
     ·rw[List.getElem?_append_right (by rw[htk]; exact c1),htk]
      have:=s9 (p-m*sz0) (by rw[hl1]; omega)
      rw[Nat.add_sub_cancel' c1] at this;exact this)
    rw[cG];refine⟨_,j,rfl,hput.1,hput.2,.aW (.inl ⟨b,0,cap,rfl,by omega⟩) (by simpa using hid) (fun bx hbx=>by rw[br (aq hM)] at hbx; cases hbx; rfl) fun sz' v' ys hx=>?_⟩
    rw[br (aq hM)] at hx; injection hx with hx; injection hx with e1 e2 e3
    subst e1; subst e2; subst e3;exact⟨Nat.le_refl _,fun _=>⟨rfl,Nat.zero_le _,by simp; omega,.inr ⟨b,cap,r2,t0,l3,by simp,by omega,q6,by rw[Nat.zero_add,q7,s7]; exact l7⟩⟩⟩
  ·cases h
 ·cases h
end
section
variable {sz:Nat} {w:World} {b n c i:Nat} {row:Array Value} {t:TypeId} {cs vs:List Value} {e:Ending} {w':World}
def jB(w:World)(o:Obj):(w.alloc o).heap=w.heap.push o:=rfl
def kV(w:World):w.drew.heap=w.heap:=rfl
def uZ{A B C:List Value}{p:Nat}:(A++(B++C))[p]?=if p<A.length then A[p]? else if p<A.length+B.length then B[p-A.length]? else C[p-A.length-B.length]?:=by
 split
 ·rw[List.getElem?_append_left (by assumption)]
 ·rw[List.getElem?_append_right (by omega)]
  split
  ·rw[List.getElem?_append_left (by omega)]
  ·rw[List.getElem?_append_right (by omega)]
def Hb(hi:i<n)(hroom:n+1<=c)(hcl:cs.length=n*sz)(hvl:vs.length=sz)(hw:w.heap[b]?=some (.cells row t (0,0)))(hrow:c*sz<=row.size)(hat:∀(p:Nat)(v:Value),cs[p]?=some v->row[p]?=some v)
  (he:e = .returned (.slice (some ⟨b,0,none⟩) (n+1) c)) (hw':w'=(w.drew.setCells b ((i+1)*sz) (cs.drop (i*sz))).setCells b (i*sz) vs):pq sz w b row t n i cs vs e w':=by
 have a1:(i+1)*sz=i*sz+sz:=by rw[Nat.add_mul,Nat.one_mul]
 have a2:(n+1)*sz=n*sz+sz:=by rw[Nat.add_mul,Nat.one_mul]
 have a3:i*sz+sz<=n*sz:=by rw[<-a1]; exact Nat.mul_le_mul_right _ hi
 have a4:(n+1)*sz<=row.size:=Nat.le_trans (Nat.mul_le_mul_right _ hroom) hrow;have hdl:(cs.drop (i*sz)).length=n*sz-i*sz:=by rw[List.length_drop,hcl]
 rw[gd,gd] at hw';obtain⟨s1,s2,s3,s4,s5,r1,s6,s7,s8,s9⟩:=fc (t:=t) (cs.drop (i*sz)) w.drew ((i+1)*sz) row hw (by omega)
 obtain⟨q1,q2,q3,q4,q5,r2,q6,q7,q8,q9⟩:=fc (t:=t) vs _ (i*sz) r1 s6 (by omega)
 rw[<-hw'] at q1 q2 q3 q4 q5 q6;have htk:(cs.take (i*sz)).length=i*sz:=by rw[List.length_take,hcl]; omega
 refine⟨b,c,r2,t,he,hroom,q6,by rw[q7,s7]; exact hrow,fun p hp=>?_,⟨by rw[q1,s1]; exact Nat.le_refl _,q2.trans s2,q3.trans s3,q4.trans s4⟩,.inl ⟨rfl,rfl,q7.trans s7,fun b0 h0 _=>(q5 b0 h0).trans (s5 b0 h0)⟩⟩
 rw[uZ,htk,hvl];split
 ·rename_i c1;rw[q8 p (.inl c1),s8 p (.inl (by omega)),List.getElem?_take_of_lt c1]
  have hp1:p<cs.length:=by omega
  rw[hat p _ (List.getElem?_eq_getElem hp1),List.getElem?_eq_getElem hp1]
 ·rename_i c1;split
  ·have:=q9 (p-i*sz) (by omega)
   rwa[Nat.add_sub_cancel' (by omega)] at this
  ·rw[q8 p (.inr (by omega))]
   have:=s9 (p-(i+1)*sz) (by omega)
   rw[Nat.add_sub_cancel' (by omega)] at this
   rw[this]; congr 1; omega
def Lw(hroom:n+1<=c)(hcl:cs.length=n*sz)(hvl:vs.length=sz)(hw:w.heap[b]?=some (.cells row t (0,0)))(hrow:c*sz<=row.size)(hat:∀(p:Nat)(v:Value),cs[p]?=some v->row[p]?=some v)
  (he:e = .returned (.slice (some ⟨b,0,none⟩) (n+1) c)) (hw':w'=w.setCells b (n*sz) vs):pq sz w b row t n n cs vs e w':=by
 have a2:(n+1)*sz=n*sz+sz:=by rw[Nat.add_mul,Nat.one_mul]
 have a4:(n+1)*sz<=row.size:=Nat.le_trans (Nat.mul_le_mul_right _ hroom) hrow;rw[gd] at hw';obtain⟨q1,q2,q3,q4,q5,r2,q6,q7,q8,q9⟩:=fc (t:=t) vs w (n*sz) row hw (by omega)
 rw[<-hw'] at q1 q2 q3 q4 q5 q6;refine⟨b,c,r2,t,he,hroom,q6,by rw[q7]; exact hrow,fun p hp=>?_,⟨by rw[q1]; exact Nat.le_refl _,q2,q3,q4⟩,.inl ⟨rfl,rfl,q7,fun b0 h0 _=>q5 b0 h0⟩⟩
 rw[<-hcl,List.take_length,List.drop_length,List.append_nil];rcases Nat.lt_or_ge p cs.length with c1|c1
 ·rw[q8 p (.inl (by omega)),List.getElem?_append_left c1,hat p _ (List.getElem?_eq_getElem c1),List.getElem?_eq_getElem c1]
 ·rw[List.getElem?_append_right c1];have:=q9 (p-n*sz) (by omega)
  rw[Nat.add_sub_cancel' (by omega)] at this
  rw[this,hcl]
def r9{z:Value}{E:TypeId}(hsz:0<sz)(hz:z.cells.size=sz)(hcl:cs.length=n*sz)(hvl:vs.length=sz)(hG:n+1<=c)
  (he:e = .returned (.slice (some ⟨w.heap.size,0,none⟩) (n+1) c)) (hw':w'=w.drew.alloc (.cells ((cs++vs).toArray++Builtin.zeroCells z.cells (c-(n+1))) E)):pq sz w b row t n n cs vs e w':=by
 have a2:(n+1)*sz=n*sz+sz:=by rw[Nat.add_mul,Nat.one_mul]
 have hzl:(Builtin.zeroCells z.cells (c-(n+1))).size=(c-(n+1))*sz:=by simp[Builtin.zeroCells,hz]
 have a3:c*sz=(n+1)*sz+(c-(n+1))*sz:=by rw[<-Nat.add_mul,Nat.add_sub_cancel' hG]
 subst hw';refine⟨w.heap.size,c,(cs++vs).toArray++Builtin.zeroCells z.cells (c-(n+1)),E,he,hG,by rw[jB,kV]; simp,by simp[hzl,hcl,hvl]; omega,fun p hp=>?_,⟨by rw[jB,kV]; simp,rfl,rfl,rfl⟩,.inr ⟨Nat.le_refl _,fun b0 h0=>by rw[jB,kV]; simp[Array.getElem?_push,Nat.ne_of_lt h0]⟩⟩
 rw[Array.getElem?_append_left (by simp; omega),<-hcl,List.take_length,List.drop_length,List.append_nil]
 simp
def Lv{z:Value}{E:TypeId}(hsz:0<sz)(hz:z.cells.size=sz)(hi:i<n)(hcl:cs.length=n*sz)(hvl:vs.length=sz)(hG:n+1<=c)
  (he:e = .returned (.slice (some ⟨w.heap.size,0,none⟩) (n+1) c))
  (hw':w'=(((w.alloc (.cells ((cs.take (i*sz)).toArray++Builtin.zeroCells z.cells (n+1-i)++Builtin.zeroCells z.cells (c-(n+1))) E)).drew.setCells w.heap.size (i*sz) vs).drew).setCells w.heap.size ((i+1)*sz) (cs.drop (i*sz))):pq sz w b row t n i cs vs e w':=by
 have a1:(i+1)*sz=i*sz+sz:=by rw[Nat.add_mul,Nat.one_mul]
 have a2:(n+1)*sz=n*sz+sz:=by rw[Nat.add_mul,Nat.one_mul]
 have a3:i*sz+sz<=n*sz:=by rw[<-a1]; exact Nat.mul_le_mul_right _ hi
 have hz1:(Builtin.zeroCells z.cells (n+1-i)).size=(n+1-i)*sz:=by simp[Builtin.zeroCells,hz]
 have hz2:(Builtin.zeroCells z.cells (c-(n+1))).size=(c-(n+1))*sz:=by simp[Builtin.zeroCells,hz]
 have a4:c*sz=(n+1)*sz+(c-(n+1))*sz:=by rw[<-Nat.add_mul,Nat.add_sub_cancel' hG]
 have a5:(n+1)*sz=i*sz+(n+1-i)*sz:=by rw[<-Nat.add_mul,Nat.add_sub_cancel' (by omega)]
 have htk:(cs.take (i*sz)).length=i*sz:=by rw[List.length_take,hcl]; omega
 have hdl:(cs.drop (i*sz)).length=n*sz-i*sz:=by rw[List.length_drop,hcl]
 generalize hR:(cs.take (i*sz)).toArray++Builtin.zeroCells z.cells (n+1-i)++Builtin.zeroCells z.cells (c-(n+1))=ROW at hw';have hRs:ROW.size=c*sz:=by rw[<-hR]; simp only[Array.size_append,hz1,hz2,List.size_toArray,htk]; omega
 have hR0:∀p,p<i*sz->ROW[p]?=cs[p]?:=fun p hp=>by
  rw[<-hR,Array.getElem?_append_left (by simp only[Array.size_append,hz1,List.size_toArray,htk]; omega),Array.getElem?_append_left (by simp only[List.size_toArray,htk]; exact hp)]
  simp[List.getElem?_take_of_lt hp]
 rw[gd,gd] at hw';have h0:((w.alloc (.cells ROW E)).drew).heap[w.heap.size]?=some (.cells ROW E (0,0)):=by rw[kV,jB]; simp
 obtain⟨s1,s2,s3,s4,s5,r1,s6,s7,s8,s9⟩:=fc (t:=E) vs _ (i*sz) ROW h0 (by omega)
 obtain⟨q1,q2,q3,q4,q5,r2,q6,q7,q8,q9⟩:=fc (t:=E) (cs.drop (i*sz)) (gR ((w.alloc (.cells ROW E)).drew) w.heap.size (i*sz) vs).drew ((i+1)*sz) r1 s6 (by omega)
 rw[<-hw'] at q1 q2 q3 q4 q5 q6;have hpush:((w.alloc (.cells ROW E)).drew).heap.size=w.heap.size+1:=by rw[kV,jB]; simp
 refine⟨w.heap.size,c,r2,E,he,hG,q6,by omega,fun p hp=>?_,⟨?_,q2.trans s2,q3.trans s3,q4.trans s4⟩,.inr ⟨Nat.le_refl _,fun b0 hb0=>?_⟩⟩
 ·rw[uZ,htk,hvl];split
  ·rename_i c1;rw[q8 p (.inl (by omega)),s8 p (.inl c1),hR0 p c1,List.getElem?_take_of_lt c1]
  ·rename_i c1;split
   ·rw[q8 p (.inl (by omega))]
    have:=s9 (p-i*sz) (by omega)
    rwa[Nat.add_sub_cancel' (by omega)] at this
   ·have:=q9 (p-(i+1)*sz) (by omega)
    rw[Nat.add_sub_cancel' (by omega)] at this
    rw[this]; congr 1; omega
 ·have e1:(gR ((w.alloc (.cells ROW E)).drew) w.heap.size (i*sz) vs).drew.heap.size=(gR ((w.alloc (.cells ROW E)).drew) w.heap.size (i*sz) vs).heap.size:=rfl;omega
 ·rw[q5 b0 (by omega)]
  refine(s5 b0 (by omega)).trans ?_
  rw[kV,jB]; simp[Array.getElem?_push,Nat.ne_of_lt hb0]
end
def kD{P:Program}{f sz bytes:Nat}(hsz:0<sz)(hby:0<bytes)
  (hI:IA P f sz bytes) (h0:IB P f sz)
  {args:List ae} {M:aj} {x:ae×aj} (h:eD sz bytes args M=some x):bn P f args M x:=by
 unfold eD at h;split at h
 ·rename_i id ver sz' lo hi i tk el;rw[cf] at h;split at h
  ·rename_i sz0 v0 xs hM;obtain⟨hc,h⟩:=bd h;cases h;obtain⟨rfl,rfl,rfl,rfl,hi0,hin,hel,hroom⟩:=hc;refine fS.call ?_;intro j w vs hr hG hl hv;obtain⟨u1,u2,u3,rfl⟩:=xk hl;have h2:=(hv 1 _ u2 rfl rfl).cq;subst h2;have h3:=(hv 2 _ u3 rfl rfl).pd;have hwe:wid [el] sz':=fun y hy=>by rw[List.mem_singleton.1 hy]; exact hel
   obtain⟨A,vc,rfl,_,h4⟩:=fW h3 hwe;obtain⟨vb,voff,rfl,us,hrl,hul,hone,hcell⟩:=h4.resolve_left (by simp)
   obtain⟨_,hid,_,g⟩:=(hv 0 _ u1 rfl rfl).gw;obtain⟨e1,_,_,⟨rfl,l3,B,rfl⟩|⟨b,cap,row,t0,l3,l4,l5,l6,l7⟩⟩:=(g sz0 v0 xs hM).2 rfl
   ·subst e1;have hm0:i=0:=by simp at hin; omega
    subst hm0;have hvl:us.length=sz0:=by simpa using hul
    refine(h0 B vb voff vc us w #[] hvl (fun p v hp=>(hcell p v hp).1) hone).mono ?_
    rintro e w' ⟨b',cap',row',t',rfl,d1,d2,d3,d4,q,d5⟩
    have hbk:w.heap.size<=b'/\∀b0,b0<w.heap.size->w'.heap[b0]?=w.heap[b0]?:=by
     rcases d5 with ⟨rfl,_,_,d7⟩|d5
     ·exact⟨Nat.le_refl _,fun b0 hb0=>d7 b0 (Nat.ne_of_lt hb0) hb0⟩
     ·exact d5
    have hrel:=Rel.mu (ver':=v0+1) (xs':=[el]) hM hr q hbk.2 hbk.1 (lt_of_block d2) (by omega) (fun j' M' hx=>fg d2 hwe (hrl.mono hx.cV) (fun p hp=>by have:=d4 p (by omega); simpa using this))
    have hext:=Ext.mu (j:=j) (ver':=v0+1) (xs':=[el]) hM q hbk.2 hbk.1 (by omega)
    rw[cG];refine⟨_,_,rfl,by simpa using hrel,by simpa using hext,.aW (.inl ⟨b',0,cap',rfl,by simpa using d1⟩) (by simpa using hid) (fun bx hbx=>by rw[br (aq hM)] at hbx; cases hbx; rfl) fun sz' v' ys hx=>?_⟩
    rw[br (aq hM)] at hx; injection hx with hx; injection hx with e1 e2 e3
    subst e1; subst e2; subst e3;exact⟨Nat.le_refl _,fun _=>⟨rfl,Nat.zero_le _,by simp,.inr ⟨b',cap',row',t',by simp[cH],by simp,by simpa using d1,d2,by rw[Nat.zero_add]; exact d3⟩⟩⟩
   subst e1; subst l4;obtain⟨b',row',t',k1,k2,k3,k4,k5⟩:=hr.rI hM l3;rw[l3] at k1; cases k1;rw[l6] at k2; injection k2 with k2; injection k2 with k2 k2'
   subst k2; subst k2';have hrow:=pv (b:=b) k3 k4 k5;rw[Nat.sub_zero] at l5;rw[Nat.zero_add] at l7;generalize hcs:row.toList.take (xs.length*sz0)=cs at hrow;have hcl:cs.length=xs.length*sz0:=by rw[<-hcs]; simp; omega
   have hat:∀p v,cs[p]?=some v->row[p]?=some v:=fun p v hp=>by
    have hlt:p<xs.length*sz0:=by rw[<-hcl]; exact aq hp
    rw[<-hcs,List.getElem?_take_of_lt hlt] at hp; simpa using hp
   obtain⟨m,rfl⟩:∃m:Nat,i=m:=⟨i.toNat,(Int.toNat_of_nonneg (by assumption)).symm⟩
   simp only[Int.toNat_natCast] at hin ⊢;unfold aP at hroom;have hbig:xs.length+1<=2 ^ 44:=Nat.le_trans (Nat.le_mul_of_pos_right _ hby) hroom;have hvl:us.length=sz0:=by simpa using hul
   have hvb:vb≠b:=by
    rintro rfl;obtain⟨s,n,hs1,_⟩:=(hcell 0 _ (List.getElem?_eq_getElem (by omega))).2.ids id hid l3
    rw[hM] at hs1; cases hs1
   rw[Nat.sub_zero,Nat.zero_mul];refine(hI b xs.length cap m vb voff vc cs us w row t0 hin l5 (by omega) (by omega) hvb hcl hvl l6 l7 hat (fun p v hp=>(hcell p v hp).1) (fun v hv=>?_) hone).mono ?_
   ·obtain⟨p,hp⟩:=List.getElem?_of_mem hv;have hp':p<(dR xs).length:=by rw[hrow.1]; exact aq hp
    exact cg.one (hrow.2 p _ v (List.getElem?_eq_getElem hp') hp)
   ·rintro e w' ⟨b',cap',row',t',rfl,d1,d2,d3,d4,q,d5⟩
    have hwd:wid (xs.take m++el::xs.drop m) sz0:=fM (nw k4) (fun y hy=>by
     rcases List.mem_cons.1 hy with rfl|hy
     ·exact hel
     ·exact nv k4 y hy)
    have dw:RL w (fY j M w) (dR (xs.take m++el::xs.drop m)) (cs.take (m*sz0)++(us++cs.drop (m*sz0))):=by
     rw[gk,gm,jG m k4,lq m k4];have hrl':RL w (fY j M w) el.cells us:=by simpa[dR] using hrl
     exact(hrow.take _).append (hrl'.append (hrow.drop _))
    have hlen:(xs.take m++el::xs.drop m).length=xs.length+1:=by simp; omega
    have hpl:(cs.take (m*sz0)++(us++cs.drop (m*sz0))).length=(xs.length+1)*sz0:=by rw[<-dw.1,c9 hwd,hlen]
    rw[cG];rcases d5 with ⟨rfl,rfl,d6,d7⟩|⟨d6,d7⟩
    ·have hput:=pt (ver':=v0+1) (xs':=xs.take m++el::xs.drop m) hr hM l3 q d7 l6 d2 d6 (by omega) (fun h=>by omega) hwd dw (fun p hp=>d4 p (by rw[<-hpl]; exact hp))
     refine⟨_,j,rfl,hput.1,hput.2,.aW (.inl ⟨b',0,cap',rfl,by omega⟩) (by simpa using hid) (fun bx hbx=>by rw[br (aq hM)] at hbx; cases hbx; rfl) fun sz' v' ys hx=>?_⟩
     rw[br (aq hM)] at hx; injection hx with hx; injection hx with e1 e2 e3
     subst e1; subst e2; subst e3;exact⟨Nat.le_refl _,fun _=>⟨rfl,Nat.zero_le _,by omega,.inr ⟨b',cap',row',t',l3,by simp,by omega,d2,by rw[Nat.zero_add]; exact d3⟩⟩⟩
    ·have hrel:=Rel.mu (ver':=v0+1) (xs':=xs.take m++el::xs.drop m) hM hr q d7 d6 (lt_of_block d2) (by omega) (fun j' M' hx=>fg d2 hwd (dw.mono hx.cV) (fun p hp=>d4 p (by rw[<-hpl]; exact hp)))
     have hext:=Ext.mu (j:=j) (ver':=v0+1) (xs':=xs.take m++el::xs.drop m) hM q d7 d6 (by omega)
     refine⟨_,_,rfl,hrel,hext,.aW (.inl ⟨b',0,cap',rfl,by omega⟩) (by simpa using hid) (fun bx hbx=>by rw[br (aq hM)] at hbx; cases hbx; rfl) fun sz' v' ys hx=>?_⟩
     rw[br (aq hM)] at hx; injection hx with hx; injection hx with e1 e2 e3
     subst e1; subst e2; subst e3;exact⟨Nat.le_refl _,fun _=>⟨rfl,Nat.zero_le _,by omega,.inr ⟨b',cap',row',t',by simp[cH],by simp,by omega,d2,by rw[Nat.zero_add]; exact d3⟩⟩⟩
  ·cases h
 ·rename_i i tk el;obtain⟨hc,h⟩:=bd h;cases h;obtain⟨rfl,hel⟩:=hc;refine fS.call ?_;intro j w vs hr hG hl hv;obtain⟨u1,u2,u3,rfl⟩:=xk hl;have h2:=(hv 1 _ u2 rfl rfl).cq;subst h2;have h3:=(hv 2 _ u3 rfl rfl).pd;have hwe:wid [el] sz:=fun y hy=>by rw[List.mem_singleton.1 hy]; exact hel
  obtain⟨A,vc,rfl,_,h4⟩:=fW h3 hwe;obtain⟨vb,voff,rfl,us,hrl,hul,hone,hcell⟩:=h4.resolve_left (by simp)
  obtain⟨B,rfl⟩:=(hv 0 _ u1 rfl rfl).vS;have hvl:us.length=sz:=by simpa using hul
  refine(h0 B vb voff vc us w #[] hvl (fun p v hp=>(hcell p v hp).1) hone).mono ?_
  rintro e w' ⟨b',cap',row',t',rfl,d1,d2,d3,d4,q,d5⟩
  have hbk:w.heap.size<=b'/\∀b0,b0<w.heap.size->w'.heap[b0]?=w.heap[b0]?:=by
   rcases d5 with ⟨rfl,_,_,d7⟩|d5
   ·exact⟨Nat.le_refl _,fun b0 hb0=>d7 b0 (Nat.ne_of_lt hb0) hb0⟩
   ·exact d5
  have hob:∀b,some b'=some b->w.heap.size<=b/\b<w'.heap.size:=fun b h=>by cases h; exact⟨hbk.1,lt_of_block d2⟩
  have ext:Ext j M w (cH j M.length (some b')) (M++[.arr sz 0 [el]]) w':=Ext.push (fun b h=>(hob b h).1) q hbk.2
  refine⟨_,cH j M.length (some b'),rfl,hr.push hob q hbk.2 (fun h=>by cases h) (fun sz n b h _=>by cases h) (fun sz0 v0 xs0 he=>?_),ext,?_⟩
  ·injection he with e1 e2 e3
   subst e1; subst e3;refine .inr ⟨b',row',t',rfl,d2,by simp at d1 d3 ⊢; exact Nat.le_trans (Nat.le_mul_of_pos_left _ (by omega)) d3,hwe,fun j' M' hx q x k c hx' hk=>?_⟩
   obtain⟨vs,t,a1,a2,a3,a4⟩:=fg (j':=j') (M':=M') d2 hwe (hrl.mono hx.cV) (fun p hp=>by have:=d4 p (by omega); simpa using this)
   rw[d2] at a1; injection a1 with a1; injection a1 with a1 a1'
   subst a1;exact a4 q x k c hx' hk
  ·refine .aW (.inl ⟨b',0,cap',rfl,by omega⟩) (by simp) (fun bx hbx=>by rw[ft] at hbx; cases hbx; rfl) fun sz' v' xs hx=>?_
   rw[ft] at hx; injection hx with hx; injection hx with e1 e2 e3
   subst e1; subst e2; subst e3;exact⟨Nat.le_refl _,fun _=>⟨rfl,Nat.zero_le _,Nat.le_refl _,.inr ⟨b',cap',row',t',by simp[cH],by simp,by omega,d2,by rw[Nat.zero_add]; exact d3⟩⟩⟩
 ·cases h
end Go.Abs
namespace Go.Proofs.YtahkjijkflobhaaGreatDoor
open Go Go.Abs
open Go.RowKit Go.Lib
def y8{P:Program}(w:World){o:Oper}{a:Act}{K:Act->World->Prop}{Q:Exit->Act->World->Prop}(d s:Operand)(t t':TypeId)
  (ho:o.op = .call { callee := .builtin .copy,args := #[d,s],argTypes := #[t,t'] }) (v u:Value) (hd:a.eval d=v) (hs:a.eval s=u) {v':Value} {w':World}
  (hr:(Builtin.copy_ #[t,t'] o.type #[v,u]).run P w = .ok v' w') (h:K (a.put o.dst v') w'):o.wp P a w K Q:=by
 unfold Oper.wp execOp;simp only[ho,resolve,invoke,builtin,Sem.run_bind,Sem.run_pure,Result.andThen_ok,List.map_toArray,List.map_cons,List.map_nil,hd,hs,hr];exact h
def dj{P:Program}(w:World){ops:Array Oper}{rest:List Oper}{o:Oper}{a:Act}{Q:Exit->Act->World->Prop}(hgd:o.guard=none)(d s:Operand)(t t':TypeId)
  (ho:o.op = .call { callee := .builtin .copy,args := #[d,s],argTypes := #[t,t'] }) (v u:Value) (hd:a.eval d=v) (hs:a.eval s=u) {v':Value} {w':World}
  (hr:(Builtin.copy_ #[t,t'] o.type #[v,u]).run P w = .ok v' w') (h:wpList P ops Q rest (a.put o.dst v') w'):wpList P ops Q (o::rest) a w :=
 wpList_plain hgd fun _ hK=>y8 w d s t t' ho v u hd hs hr (hK _ _ h)
def gh{P:Program}{ops:Array Oper}{o:Oper}{a:Act}{w:World}{K:Act->World->Prop}{Q:Exit->Act->World->Prop}{E:Prop}
  (hg:o.guard=none) (d x:Operand) (dT sT:TypeId) (hop:o.op=Op.call { callee:=Callee.builtin Builtin.copy,args := #[d,x],argTypes := #[dT,sT] })
  (v u:Value) (hd:a.eval d=v) (hx:a.eval x=u) {v':Value} {w':World} (hr:(Builtin.copy_ #[dT,sT] o.type #[v,u]).run P w = .ok v' w') (hK:K (a.put o.dst v') w') :
  if Region.wanted o (yielded ops a.tmps)=true then Oper.wp P o a w K Q else E:=by
 rw[if_pos (show Region.wanted o (yielded ops a.tmps)=true by simp[Region.wanted,hg])]
 exact y8 w d x dT sT hop v u hd hx hr hK
def jT{P:Program}{ops:Array Oper}{o:Oper}{a:Act}{w:World}{K:Act->World->Prop}{Q:Exit->Act->World->Prop}{E:Prop}
  (hg:o.guard=none) (d x:Operand) (dT sT:TypeId) (hop:o.op=Op.call { callee:=Callee.builtin Builtin.append,args := #[d,x],argTypes := #[dT,sT] })
  (v u:Value) (hd:a.eval d=v) (hx:a.eval x=u) {v':Value} {w':World} (hr:(Builtin.append_ #[dT,sT] o.type #[v,u]).run P w = .ok v' w') (hK:K (a.put o.dst v') w') :
  if Region.wanted o (yielded ops a.tmps)=true then Oper.wp P o a w K Q else E:=by
 rw[if_pos (show Region.wanted o (yielded ops a.tmps)=true by simp[Region.wanted,hg])]
 exact wp_append_run w d x dT sT hop v u hd hx v' w' hr hK
section
variable {P:Program} {S E:TypeId} {k by' f fo:Nat} {z:Value}
def pM(w:World)(dT sT ty elem:TypeId)(k b o dLen dCap:Nat)(a:Addr)(sLen sCap:Nat)(cs:List Value)(m:Nat)
  (hu:P.underlying dT=some (.slice elem)) (hs:(P.info? elem).map (·.size)=some k) (hm:m=Nat.min sLen dLen) (hn:cs.length=m*k)
  (hsrc:∀j v,cs[j]?=some v->w.cell? (a.add j)=some v) (hc:∀j,j<cs.length->(w.cell? ⟨b,o+j,none⟩).isSome=true) (hf:∀j,j<cs.length->w.frozen? ⟨b,o+j,none⟩=false) (h1:∀v∈cs,v.oneCell'=true) :
  (Builtin.copy_ #[dT,sT] ty #[.slice (some ⟨b,o,none⟩) dLen dCap,.slice (some a) sLen sCap]).run P w = .ok (goInt m) (w.setCells b o cs):=by
 have hl:=run_loadCells_list (P:=P) w a cs hsrc;have hst:=run_storeCells_cells (P:=P) b o cs 0 w (by simpa using hc) (by simpa using hf) h1
 cases hq:P.info? elem with
 |none=>simp[hq] at hs
 |some i =>
  have hi:i.size=k:=by simpa[hq] using hs
  simp only[Nat.add_zero] at hst;rw[hn] at hl;subst hm;simp[Builtin.copy_,run_underlying hu,Builtin.lenOf,Builtin.firstCells,sizeOf,typeInfo,hq,hi,hl,hst]
def xb(w:World)(tS tR e:TypeId)(ht:P.underlying tS=some (.slice e))(size:Nat)(hz:∀w,(Go.sizeOf e).run P w = .ok size w)
  (a b:Addr) (la ca lb cb:Nat) (hne:a.block≠b.block) (tA tB:TypeId) (kA:Nat) (vs:Array Value) (hsa:w.shape? a.block=some (tA,kA+1)) (hb:w.heap[b.block]?=some (.cells vs tB (0,0))) :
  (Extern.SlicesOverlaps.overlaps #[tS,tS] #[tR] #[.slice (some a) la ca,.slice (some b) lb cb]).run P w = .ok (.bool false) w:=by
 have hnb:(a.block != b.block)=true:=by simpa using hne
 have hnb':(a.block==b.block)=false:=by simpa using hne
 have hsb:w.shape? b.block=some (tB,vs.size):=by simp[World.shape?,hb]
 have hfb:∀o s,w.frozen? ⟨b.block,o,s⟩=false:=fun o s=>by simp[World.frozen?,hb]
 have hfb':w.frozen? b=false:=by simp[World.frozen?,hb]
 rw[show Extern.SlicesOverlaps.overlaps #[tS,tS] #[tR] #[.slice (some a) la ca,.slice (some b) lb cb]=(underlying tS >>= _) from rfl]
 by_cases h0:la=0\/lb=0\/size=0
 ·simp[run_underlying ht,hz,h0]
 ·cases hfa:w.frozen? a with
  |true=>simp[run_underlying ht,hz,h0,hnb,hnb',frozen,noView,viewAt,mayBeOne,stringish,shape,Sem.run,hsa,hsb,hfa,hfb,hfb']
  |false =>
   cases hfe:w.frozen? { block:=a.block,off:=kA+1 } <;>
   simp[run_underlying ht,hz,h0,hnb,hnb',frozen,noView,viewAt,mayBeOne,stringish,shape,Sem.run,hsa,hsb,hfa,hfb,hfb',hfe]
def vn(w:World)(t e ty:TypeId)(ht:P.underlying t=some (.slice e)){i:TypeInfo}(hi:P.info? e=some i){z:Value}(hz:i.zero=some z)(b o n c:Nat)(hn:0<n)
  (zs:List Value) (hzs:zs=(Builtin.zeroCells z.cells n).toList) (hc:∀j,j<zs.length->(w.cell? ⟨b,o+j,none⟩).isSome=true) (hf:∀j,j<zs.length->w.frozen? ⟨b,o+j,none⟩=false) (h1:∀v∈zs,v.oneCell'=true) :
  (Builtin.clear_ #[t] ty #[.slice (some ⟨b,o,none⟩) n c]).run P w = .ok (.tuple #[]) (w.setCells b o zs):=by
 have hst:=run_storeCells_cells (P:=P) b o zs 0 w (by simpa using hc) (by simpa using hf) h1
 simp only[Nat.add_zero] at hst;rw[hzs] at hst;obtain⟨m,rfl⟩:∃m,n=m+1:=⟨n-1,by omega⟩
 rw[hzs];simp[Builtin.clear_,run_underlying ht,zeroValue,typeInfo,hi,hz,hst]
def iK(b:Nat)(vs:List Value)(o:Nat)(w:World)(h:∀j,j<vs.length->(w.cell? ⟨b,o+j,none⟩).isSome=true)(k:Nat)(hk:(w.cell? ⟨b,k,none⟩).isSome=true):((w.setCells b o vs).cell? ⟨b,k,none⟩).isSome=true:=by
 by_cases hin:o<=k/\k<o+vs.length
 ·have:=World.cell?_setCells_in b vs o w h (k-o) (by omega)
  rw[show o+(k-o)=k by omega] at this
  rw[this];simp
 ·rw[World.cell?_setCells_out b vs o w ⟨b,k,none⟩ (fun _ _=>by show k<o\/o+vs.length<=k; omega)]
  exact hk
structure El(P:Program)(S E:TypeId)(k by':Nat)(z:Value):Prop where
 u:P.underlying S=some (.slice E)
 i:∃i0,P.info? E=some i0/\i0.size=k/\i0.zero=some z/\i0.bytes=by'
 c:z.cells.size=k
 o:∀v∈z.cells.toList,v.oneCell'=true
 p:0<k
 b:0<by'
def El.of(hu:P.underlying S=some (.slice E))(hi:(P.info? E).map (fun i=>(i.size,i.zero,i.bytes))=some (k,some z,by'))(hc:z.cells.size=k/\z.cells.toList.all (·.oneCell')=true)(hp:0<k)(hb:0<by'):El P S E k by' z:=by
 obtain⟨i0,h1,h2⟩:=Option.map_eq_some_iff.1 hi;injection h2 with h2 h3
 injection h3 with h3 h4
 exact⟨hu,⟨i0,h1,h2,h3,h4⟩,hc.1,List.all_eq_true.1 hc.2,hp,hb⟩
def El.s(h:El P S E k by' z):(P.info? E).map (·.size)=some k:=by
 obtain⟨i0,h1,h2,_⟩:=h.i;rw[h1]; simp[h2]
def El.so(h:El P S E k by' z)(w:World):(Go.sizeOf E).run P w = .ok k w:=by
 obtain⟨i0,h1,h2,_⟩:=h.i;simp[sizeOf,typeInfo,h1,h2]
def El.q(h:El P S E k by' z):(∀(w:World)(a:Option Addr)(n c n' c':Nat),(binOp .eql S (.slice a n c) (.slice none n' c')).run P w = .ok (.bool a.isNone) w)/\∀w,Sem.run P (underlying S) w = .ok (TypeDesc.slice E) w :=
 ⟨fun w a n c n' c'=>Lib.run_eql_slice_nil w _ _ a n c n' c' h.u,run_underlying h.u⟩
def oB(P:Program)(f:Nat)(S E:TypeId):Prop:=∀(b off n c:Nat)(w:World)(K:Value->World->Prop),
 (∀ {ops:Array Oper} {rest:List Oper} {o:Oper} {a:Act} {Q:Exit->Act->World->Prop},o.guard=none->∀s x,o.op = .call { callee := .builtin .append,args := #[s,x],argTypes := #[S,S] }->a.eval s = .slice (some ⟨w.heap.size,0,none⟩) 0 0 ->
  a.eval x = .slice (some ⟨b,off,none⟩) n c->(∀v' w1,K v' w1->wpList P ops Q rest (a.put o.dst v') w1)->wpList P ops Q (o::rest) a (w.alloc (.cells #[] E))) ->
 Calls P f #[.slice (some ⟨b,off,none⟩) n c] w fun e w'=>∃v',e = .returned v'/\K v' w'
def oz(P:Program)(f:Nat)(S E:TypeId):Prop:=∀(A:Option Addr)(c:Nat)(w:World),
 (∀ty a,(Builtin.append_ #[S,S] ty #[.slice (some ⟨w.heap.size,0,none⟩) 0 0,.slice (some a) 0 c]).run P (w.alloc (.cells #[] E)) = .ok (.slice (some ⟨w.heap.size,0,none⟩) 0 0) (w.alloc (.cells #[] E))) ->
 Calls P f #[.slice A 0 c] w fun e w'=>(∃B,e = .returned (.slice B 0 0))/\(w'=w\/w'=w.alloc (.cells #[] E))
def lh(h:El P S E k by' z)(hw:oB P f S E):rE P f E k by':=by
 intro b off n c news w hl hn hbig hc h1;obtain⟨i0,g1,g2,g3,g4⟩:=h.i;refine(hw b off n c w (fun v' w'=>w'.ownsRow w.heap.size E k v' n news/\v' ≠ .slice none 0 0/\Below w.heap.size w w') ?_).mono fun e w' ⟨v',e1,e2⟩=>⟨v',e1,e2⟩
 intro ops rest o a Q hg s x ho hs hx hK;refine wpList_append_own _ hg s x S ho w.heap.size E i0 z k by' h.u g1 g3 g2 g4 h.c h.p _ _ _ hs (World.ownsRow_made w #[] 0 (Nat.le_refl _) (Nat.zero_le _) (by simp)) ⟨b,off,none⟩ n c news hx hl (fun j u hj=>?_) h1 (by rw[Nat.zero_add]; exact hn) (by rw[Nat.zero_add]; exact hbig) (by simp) ?_
 ·rw[Addr.add_lit];exact Lib.cell?_alloc_some _ (hc j u hj)
 ·intro v' w1 hown hgrow hnil;refine hK v' w1 ⟨by simpa using hown,by simpa using hnil,?_⟩
  exact((Below.refl _ w).alloc (Nat.le_refl _) _).grown hgrow (by simp) (by intro k hk; simp[Value.ownBlock] at hk; omega)
def jE(h:El P S E k by' z)(hw:oz P f S E):oA P f:=by
 intro A c w;refine(hw A c w fun ty a=>?_).mono fun e w' ⟨h1,h2⟩=>⟨h1,?_⟩
 ·simp[Builtin.append_,run_underlying h.u,h.so,Builtin.lenOf,Builtin.firstCells,loadCells,loadCellsFrom,storeCells]
 ·rcases h2 with rfl|rfl
  ·exact Below.refl _ _
  ·exact(Below.refl _ w).alloc (Nat.le_refl _) _
def Ik(P:Program)(f:Nat)(S:TypeId)(k:Nat):Prop:=∀(blk cap i j n:Nat)(A:Addr)(w W1 W2:World),(if cap=j then some (⟨blk,0,none⟩:Addr) else some ⟨blk,j*k,none⟩)=some A ->
 (∀ty,(Builtin.append_ #[S,S] ty #[.slice (some ⟨blk,0,none⟩) i cap,.slice (some A) (n-j) (cap-j)]).run P w.drew = .ok (.slice (some ⟨blk,0,none⟩) (i+(n-j)) cap) W1) ->
 (∀ty,(Builtin.clear_ #[S] ty #[.slice (some ⟨blk,(i+(n-j))*k,none⟩) (n-(i+(n-j))) (cap-(i+(n-j)))]).run P W1 = .ok (.tuple #[]) W2) ->
 n<=cap->n<=9223372036854775807->i<n->i<=cap->i<j->j<=cap->j<=n ->
 Calls P f #[.slice (some ⟨blk,0,none⟩) n cap,.int .i64 i,.int .i64 j] w fun e w'=>e = .returned (.slice (some ⟨blk,0,none⟩) (i+(n-j)) cap)/\w'=W2
def zq(h:El P S E k by' z)(hw:Ik P f S k):Uf P f k z.cells.toList:=by
 intro blk cap i j n cs w hl hcap hm hi hj hH;obtain⟨i0,g1,g2,g3,g4⟩:=h.i;have a1:j*k=i*k+k:=by rw[hj,Nat.succ_mul]
 have a2:j*k<=n*k:=Nat.mul_le_mul_right _ (by omega)
 have a3:(n-j)*k=n*k-j*k:=Nat.sub_mul ..;have a4:(n-1)*k=n*k-k:=by rw[Nat.sub_mul,Nat.one_mul]
 obtain⟨news,hnews⟩:∃news,news=cs.drop (j*k):=⟨_,rfl⟩;have hlen:news.length=(n-j)*k:=by rw[hnews,List.length_drop,hl,a3]
 have hsome:∀p,p<n*k->(w.cell? ⟨blk,p,none⟩).isSome=true/\w.frozen? ⟨blk,p,none⟩=false:=fun p hp=>by
  obtain⟨h1,h2,_⟩:=hH p _ (List.getElem?_eq_getElem (by omega))
  exact⟨by rw[h1]; rfl,h2⟩
 obtain⟨A,hA,hsrc⟩:∃A:Addr,(if cap=j then some (⟨blk,0,none⟩:Addr) else some ⟨blk,j*k,none⟩)=some A/\∀t u,news[t]?=some u->w.drew.cell? (A.add t)=some u:=by
  by_cases hc:cap=j
  ·refine⟨⟨blk,0,none⟩,by simp[hc],fun t u hu=>?_⟩
   have e0:n-j=0:=by omega
   have h0:news.length=0:=by rw[hlen,e0,Nat.zero_mul]
   rw[List.length_eq_zero_iff.1 h0] at hu;simp at hu
  ·refine⟨⟨blk,j*k,none⟩,by simp[hc],fun t u hu=>?_⟩
   rw[hnews,List.getElem?_drop] at hu;rw[Addr.add_lit];exact(hH _ _ hu).1
 have s2:∀u∈news,u.oneCell'=true:=by
  intro u hu;rw[hnews] at hu;obtain⟨p,hp⟩:=List.getElem?_of_mem (List.mem_of_mem_drop hu);exact(hH p u hp).2.2
 have hW1c:∀p,p<n*k->((w.drew.setCells blk (i*k) news).cell? ⟨blk,p,none⟩).isSome=true:=fun p hp =>
  iK blk news _ w.drew (fun q hq=>(hsome (i*k+q) (by rw[hlen] at hq; omega)).1) p (hsome p hp).1
 have hW1f:∀p,p<n*k->(w.drew.setCells blk (i*k) news).frozen? ⟨blk,p,none⟩=false:=fun p hp=>by
  rw[World.frozen?_setCells];exact(hsome p hp).2
 have hin:i+(n-j)=n-1:=by omega
 have hzl:z.cells.toList.length=k:=by simp[h.c]
 have hzz:∀q,q<z.cells.toList.length->(n-1)*k+q<n*k:=fun q hq=>by
  have:k<=n*k:=Nat.le_mul_of_pos_left _ (by omega)
  omega
 refine(hw blk cap i j n A w (w.drew.setCells blk (i*k) news) ((w.drew.setCells blk (i*k) news).setCells blk ((n-1)*k) z.cells.toList) hA (fun ty=>?_) (fun ty=>?_) hcap hm hi (by omega) (by omega) (by omega) (by omega)).mono ?_
 ·have hr:=run_append_room_cells (P:=P) w.drew S ty E i0 h.u g1 blk 0 i cap A (n-j) (cap-j) news (by rw[g2,hlen]) hsrc s2 (by omega) (fun q hq=>by rw[g2,Nat.zero_add]; exact(hsome _ (by omega)).1) (fun q hq=>by rw[g2,Nat.zero_add]; exact(hsome _ (by omega)).2)
  rw[g2,Nat.zero_add] at hr;exact hr
 ·rw[hin];exact vn _ _ _ ty h.u g1 g3 blk _ _ _ (by omega) _ (by rw[show n-(n-1)=1 by omega,jt]; simp) (fun q hq=>hW1c _ (hzz q hq)) (fun q hq=>hW1f _ (hzz q hq)) h.o
 ·rintro e w' ⟨rfl,rfl⟩;exact⟨by rw[hin],by rw[hnews]⟩
def vD(P:Program)(f fo:Nat)(S:TypeId)(k:Nat):Prop:=∀(b n c i vb voff vc:Nat)(vs:List Value)(w W1:World),
 (∀lb cb,(callFunc fo #[.slice (some ⟨vb,voff,none⟩) 1 vc,.slice (some ⟨b,(i+1)*k,none⟩) lb cb]).run P w = .ok (.value (.bool false)) w) ->
 (∀ty dc sc,(Builtin.copy_ #[S,S] ty #[.slice (some ⟨b,(i+1)*k,none⟩) (n-i) dc,.slice (some ⟨b,i*k,none⟩) (n+1-i) sc]).run P w.drew = .ok (goInt ((n-i:Nat):Int)) W1) ->
 (∀W:World,(∀x,W.cell? x=W1.cell? x)->(∀x,W.frozen? x=W1.frozen? x)->∀ty dc,(Builtin.copy_ #[S,S] ty #[.slice (some ⟨b,i*k,none⟩) (n+1-i) dc,.slice (some ⟨vb,voff,none⟩) 1 vc]).run P W = .ok (goInt 1) (W.setCells b (i*k) vs)) ->
 i<n->n+1<=c->n+1<=9223372036854775807->¬((i:Int)=(n:Int))->IntKind.i64.wrap ((i:Int)+1)=(i:Int)+1->(0:Int)<=(i:Int)+1->i<=n->((i:Int)+1).toNat=i+1->¬(c=i+1)->(i:Int)<=(n:Int)+1->¬(c=i) ->
 Calls P f #[.slice (some ⟨b,0,none⟩) n c,.int .i64 i,.slice (some ⟨vb,voff,none⟩) 1 vc] w fun e w'=>e = .returned (.slice (some ⟨b,0,none⟩) (n+1) c)/\w'=W1.setCells b (i*k) vs
def Gk(P:Program)(f:Nat)(S:TypeId):Prop:=∀(base:Option Addr)(n c vb voff vc:Nat)(V:Value)(w W:World),
 (∀ty,(Builtin.append_ #[S,S] ty #[.slice base n c,.slice (some ⟨vb,voff,none⟩) 1 vc]).run P w = .ok V W)->n<=c->n+1<=9223372036854775807->(base=none->n=0) ->
 Calls P f #[.slice base n c,.int .i64 n,.slice (some ⟨vb,voff,none⟩) 1 vc] w fun e w'=>e = .returned V/\w'=W
def Ao(P:Program)(f:Nat)(S E:TypeId)(k:Nat):Prop:=∀(b n c i G vb voff vc:Nat)(ROW:Array Value)(vs ds:List Value)(w:World),
 (∀ty,(Builtin.append_ #[S,3] ty #[.slice (some ⟨b,0,none⟩) i c,.int .i64 ((n:Int)+1-(i:Int))]).run P w = .ok (.slice (some ⟨w.heap.size,0,none⟩) (n+1) G) (w.drew.alloc (.cells ROW E))) ->
 (∀W:World,(∀x,W.cell? x=(w.drew.alloc (.cells ROW E)).cell? x)->(∀x,W.frozen? x=(w.drew.alloc (.cells ROW E)).frozen? x)->∀ty dc,(Builtin.copy_ #[S,S] ty #[.slice (some ⟨w.heap.size,i*k,none⟩) (n+1-i) dc,.slice (some ⟨vb,voff,none⟩) 1 vc]).run P W = .ok (goInt 1) (W.setCells w.heap.size (i*k) vs)) ->
 (∀W:World,(∀x,W.cell? x=((w.drew.alloc (.cells ROW E)).setCells w.heap.size (i*k) vs).cell? x)->(∀x,W.frozen? x=((w.drew.alloc (.cells ROW E)).setCells w.heap.size (i*k) vs).frozen? x)->∀ty dc sc,
  (Builtin.copy_ #[S,S] ty #[.slice (some ⟨w.heap.size,(i+1)*k,none⟩) (n+1-(i+1)) dc,.slice (some ⟨b,i*k,none⟩) (n-i) sc]).run P W = .ok (goInt ((n-i:Nat):Int)) (W.setCells w.heap.size ((i+1)*k) ds)) ->
 (∀x,((w.alloc (.cells ROW E)).drew).cell? x=(w.drew.alloc (.cells ROW E)).cell? x)->(∀x,((w.alloc (.cells ROW E)).drew).frozen? x=(w.drew.alloc (.cells ROW E)).frozen? x) ->
 (∀x,(((w.alloc (.cells ROW E)).drew.setCells w.heap.size (i*k) vs).drew).cell? x=((w.drew.alloc (.cells ROW E)).setCells w.heap.size (i*k) vs).cell? x) ->
 (∀x,(((w.alloc (.cells ROW E)).drew.setCells w.heap.size (i*k) vs).drew).frozen? x=((w.drew.alloc (.cells ROW E)).setCells w.heap.size (i*k) vs).frozen? x) ->
 i<n->n<=c->c<n+1->¬((i:Int)=(n:Int))->(c:Int)<(n:Int)+1->n+1<=G->G<=9223372036854775807->¬(G=i)->¬(G=i+1)->¬(c=i)->IntKind.i64.wrap ((i:Int)+1)=(i:Int)+1->(0:Int)<=(i:Int)+1->i<=n->((i:Int)+1).toNat=i+1->(i:Int)<=(n:Int)->n+1<=140737488355328 ->
 Calls P f #[.slice (some ⟨b,0,none⟩) n c,.int .i64 i,.slice (some ⟨vb,voff,none⟩) 1 vc] w fun e w'=>e = .returned (.slice (some ⟨w.heap.size,0,none⟩) (n+1) G) /\
  w'=(((w.alloc (.cells ROW E)).drew.setCells w.heap.size (i*k) vs).drew).setCells w.heap.size ((i+1)*k) ds
def P9{w:World}{vb voff:Nat}{v:Value}(h0:w.cell? ⟨vb,voff,none⟩=some v):∃tA kA,w.shape? vb=some (tA,kA+1):=by
 unfold World.cell? at h0;unfold World.shape?;split at h0
 ·rename_i cc ee ff hb;simp only[hb];simp at h0;have:=(Array.getElem?_eq_some_iff.1 h0).1;exact⟨ee,cc.size-1,by simp; omega⟩
 ·cases h0
def vu(h:El P S E k by' z)(h3:P.underlying 3=some (.int .i64))(ho:∀args w,(callFunc fo args).run P w=((Extern.SlicesOverlaps.overlaps #[S,S] #[4] args).run P w).andThen fun v w' => .ok (.value v) w')
  (hS:vD P f fo S k) (hE:Gk P f S) (hG:Ao P f S E k):IA P f k by':=by
 intro b n c i vb voff vc cs vs w row tB hi hnc hbig h63 hvb hcl hvl hw hrow hat hvs h1c h1v;obtain⟨i0,hi0,hzs,hz0,hzb⟩:=h.i;have hk:=h.p;have hcs:∀(p:Nat)(v:Value),cs[p]?=some v->w.cell? ⟨b,p,none⟩=some v:=fun p v hp=>by simp[World.cell?,hw,hat p v hp]
 have hfz:∀j,w.frozen? ⟨b,j,none⟩=false:=fun j=>by simp[World.frozen?,hw]
 have a1:(n+1)*k=n*k+k:=Nat.succ_mul ..;have a2:(i+1)*k=i*k+k:=Nat.succ_mul ..;have a3:(n-i)*k=n*k-i*k:=Nat.sub_mul ..;have a4:i*k<=n*k:=Nat.mul_le_mul_right _ hi;have hdl:(cs.drop (i*k)).length=(n-i)*k:=by rw[List.length_drop,hcl,a3]
 have hv0:=hvs 0 _ (List.getElem?_eq_getElem (by omega))
 have hle:n+1<=140737488355328:=Nat.le_trans (Nat.le_mul_of_pos_right _ h.b) hbig;have hw1:IntKind.i64.wrap ((i:Int)+1)=(i:Int)+1:=by rw[IntKind.wrap_i64]; omega
 have hmin:1=Nat.min 1 (n+1-i):=by simp only[Nat.min_def]; split<;>omega
 by_cases hroom:n+1<=c
 ·have hr0:(n+1)*k<=row.size:=Nat.le_trans (Nat.mul_le_mul_right _ hroom) hrow
  have hsp:∀j,j<(n+1)*k->(w.cell? ⟨b,j,none⟩).isSome=true:=fun j hj=>by
   simp[World.cell?,hw,Array.getElem?_eq_getElem (show j<row.size by omega)]
  by_cases hin:i<n
  ·have a5:(i+1)*k<=n*k:=Nat.mul_le_mul_right _ hin;obtain⟨tA,kA,hsa⟩:=P9 hv0;refine(hS b n c i vb voff vc vs w (w.drew.setCells b ((i+1)*k) (cs.drop (i*k))) (fun lb cb=>?_) (fun ty dc sc=>?_) (fun W hWc hWf ty dc=>?_) hin hroom h63 (by omega) hw1 (by omega) (by omega) (by omega) (by omega) (by omega) (by omega)).mono ?_
   ·rw[ho,xb w S 4 E h.u k h.so ⟨vb,voff,none⟩ ⟨b,(i+1)*k,none⟩ 1 vc lb cb hvb tA tB kA row hsa hw];rfl
   ·exact pM w.drew _ _ ty E k b ((i+1)*k) (n-i) dc ⟨b,i*k,none⟩ (n+1-i) sc (cs.drop (i*k)) (n-i) h.u h.s (by simp only[Nat.min_def]; split<;>omega) hdl
     (fun j v hj=>by rw[Addr.add_lit]; exact hcs (i*k+j) v (by rwa[List.getElem?_drop] at hj))
     (fun j hj=>hsp ((i+1)*k+j) (by omega)) (fun j hj=>hfz _) (fun v hv=>h1c v (List.mem_of_mem_drop hv))
   ·exact pM W _ _ ty E k b (i*k) (n+1-i) dc ⟨vb,voff,none⟩ 1 vc vs 1 h.u h.s hmin (by rw[hvl,Nat.one_mul])
     (fun j v hj=>by
      rw[Addr.add_lit,hWc,World.cell?_setCells_out b _ _ _ _ (fun h _=>absurd h hvb)]
      exact hvs j v hj)
     (fun j hj=>by rw[hWc]; exact iK b _ _ w.drew (fun j hj=>hsp ((i+1)*k+j) (by omega)) _ (hsp (i*k+j) (by omega)))
     (fun j hj=>by rw[hWf,World.frozen?_setCells]; exact hfz _) h1v
   ·rintro e w' ⟨he,hw'⟩;exact Hb hin hroom hcl hvl hw hrow hat he hw'
  ·obtain rfl:i=n:=by omega
   refine(hE (some ⟨b,0,none⟩) i c vb voff vc (.slice (some ⟨b,0,none⟩) (i+1) c) w (w.setCells b (i*k) vs) (fun ty=>?_) hnc h63 (by simp)).mono ?_
   ·have hr:=run_append_room_cells (P:=P) w S ty E i0 h.u hi0 b 0 i c ⟨vb,voff,none⟩ 1 vc vs (by rw[hzs,hvl,Nat.one_mul]) (fun j u hj=>by rw[Addr.add_lit]; exact hvs j u hj) h1v hroom
     (fun j hj=>by rw[hzs,Nat.zero_add]; exact hsp _ (by omega)) (fun j hj=>hfz _)
    rw[hzs,Nat.zero_add] at hr;exact hr
   ·rintro e w' ⟨he,hw'⟩;exact Lw hroom hcl hvl hw hrow hat he hw'
 ·have hGc:=grownCap_ge w (n+1) c E
  by_cases hin:i<n
  ·have a5:(i+1)*k<=n*k:=Nat.mul_le_mul_right _ hin;have hbw:b<w.heap.size:=lt_of_block hw;have hvw:vb<w.heap.size:=block_lt_of_cell hv0;have hik:i+(n+1-i)=n+1:=by omega
   have hold:(Builtin.firstCells i0.size i (.slice (some ⟨b,0,none⟩) i c)).run P w.drew = .ok (cs.take (i*k)).toArray w.drew:=by
    rw[hzs]
    exact run_firstCells_some w.drew k i ⟨b,0,none⟩ i c (cs.take (i*k)) (by rw[List.length_take]; omega) (fun j v hj=>by
     rw[Addr.add_lit,Nat.zero_add];rw[List.getElem?_take] at hj;split at hj
     ·exact hcs j v hj
     ·cases hj)
   obtain⟨ROW,hROW⟩:∃ROW:Array Value,ROW=(cs.take (i*k)).toArray++Builtin.zeroCells z.cells (n+1-i)++Builtin.zeroCells z.cells (grownCap w (n+1) c E-(n+1)):=⟨_,rfl⟩
   have hRl:(n+1)*k<=ROW.size:=by
    have e1:(n+1-i)*k=(n+1)*k-i*k:=Nat.sub_mul ..;rw[hROW];simp only[Builtin.zeroCells,Array.size_append,Array.size_map,Array.size_range,h.c,List.size_toArray,List.length_take,hcl];omega
   have hN:∀j,j<(n+1)*k->((w.drew.alloc (.cells ROW E)).cell? ⟨w.heap.size,j,none⟩).isSome=true:=fun j hj=>by
    rw[World.cell?_alloc_at (w:=w.drew) ROW _ w.heap.size j rfl,Array.getElem?_eq_getElem (by omega)]; rfl
   have hNf:∀j,(w.drew.alloc (.cells ROW E)).frozen? ⟨w.heap.size,j,none⟩=false:=fun j=>World.frozen?_alloc_at (w:=w.drew) ROW _ w.heap.size j rfl
   have hG63:grownCap w (n+1) c E<=9223372036854775807:=by
    have:=grownCap_le_maxLen w (n+1) c E (by unfold maxLen; omega)
    unfold maxLen at this;omega
   refine(hG b n c i (grownCap w (n+1) c E) vb voff vc ROW vs (cs.drop (i*k)) w (fun ty=>?_) (fun W hWc hWf ty dc=>?_) (fun W hWc hWf ty dc sc=>?_) (fun _=>rfl) (fun _=>rfl) (fun _=>rfl) (fun _=>rfl)
    hin hnc (by omega) (by omega) (by omega) hGc hG63 (by omega) (by omega) (by omega) hw1 (by omega) (by omega) (by omega) (by omega) hle).mono ?_
   ·have hr:=Lib.run_append_grow_zeros w S 3 ty E i0 _ .i64 .i64 h.u h3 hi0 hz0 (some ⟨b,0,none⟩) i c (cs.take (i*k)) hold (n+1-i) (by omega) (by omega) (by omega) (by omega)
     (by rw[hzb]; exact Nat.le_trans (Nat.mul_le_mul_right _ (by omega:n+1-i<=n+1)) (by omega)) (by rw[hzb,hik]; exact growslice_fits (by omega) hbig)
    rw[hik] at hr;rw[show(n:Int)+1-(i:Int)=((n+1-i:Nat):Int) by omega,hROW]
    exact hr
   ·exact pM W _ _ ty E k w.heap.size (i*k) (n+1-i) dc ⟨vb,voff,none⟩ 1 vc vs 1 h.u h.s hmin (by rw[hvl,Nat.one_mul])
     (fun j v hj=>by rw[Addr.add_lit,hWc,World.cell?_alloc_past (w:=w.drew) _ vb _ hvw]; exact hvs j v hj)
     (fun j hj=>by rw[hWc]; exact hN (i*k+j) (by omega)) (fun j hj=>by rw[hWf]; exact hNf _) h1v
   ·exact pM W _ _ ty E k w.heap.size ((i+1)*k) (n+1-(i+1)) dc ⟨b,i*k,none⟩ (n-i) sc (cs.drop (i*k)) (n-i) h.u h.s (by simp only[Nat.min_def]; split<;>omega) hdl
     (fun j v hj=>by
      rw[Addr.add_lit,hWc,World.cell?_setCells_out _ _ _ _ _ (fun h _=>absurd h (by show b≠w.heap.size; omega)),World.cell?_alloc_past (w:=w.drew) _ b _ hbw]
      exact hcs (i*k+j) v (by rwa[List.getElem?_drop] at hj))
     (fun j hj=>by rw[hWc]; exact iK _ _ _ _ (fun t ht=>hN (i*k+t) (by omega)) _ (hN ((i+1)*k+j) (by omega)))
     (fun j hj=>by rw[hWf,World.frozen?_setCells]; exact hNf _) (fun v hv=>h1c v (List.mem_of_mem_drop hv))
   ·rintro e w' ⟨he,hw'⟩;rw[hROW] at hw';exact Lv hk h.c hin hcl hvl hGc he hw'
  ·obtain rfl:i=n:=by omega
   refine(hE (some ⟨b,0,none⟩) i c vb voff vc _ w _ (fun ty=>run_append_grow_src w S S ty E i0 z h.u hi0 hz0 (some ⟨b,0,none⟩) i c cs ?_ _ 1 vs ?_ (by omega) (by omega) (by rw[hzb]; exact growslice_fits (by omega) hbig)) hnc h63 (by simp)).mono ?_
   ·rw[hzs];exact run_firstCells_some w.drew k i _ i c cs hcl (fun j v hj=>by rw[Addr.add_lit,Nat.zero_add]; exact hcs j v hj)
   ·rw[hzs];exact Src.ofSlice w h.u ⟨vb,voff,none⟩ 1 vc vs (by rw[hvl,Nat.one_mul]) (fun j u hj=>by rw[Addr.add_lit]; exact hvs j u hj) h1v
   ·rintro e w' ⟨he,hw'⟩;exact r9 hk h.c hcl hvl hGc he hw'
def vv(h:El P S E k by' z)(hby:by'<=140737488355328)(hE:Gk P f S):IB P f k:=by
 intro A vb voff vc vs w row hvl hvs h1v;obtain⟨i0,hi0,hzs,hz0,hzb⟩:=h.i;refine(hE A 0 0 vb voff vc _ w _ (fun ty=>run_append_grow_src w S S ty E i0 z h.u hi0 hz0 A 0 0 [] ?_ _ 1 vs ?_ (by omega) (by omega) (by rw[hzb]; exact growslice_fits (by omega) (by omega))) (Nat.le_refl _) (by omega) (fun _=>rfl)).mono ?_
 ·rw[hzs];cases A with
  |none=>exact run_firstCells_none w.drew k 0 0 0
  |some a=>exact run_firstCells_some w.drew k 0 a 0 0 [] (by simp) (fun j v hj=>by simp at hj)
 ·rw[hzs];exact Src.ofSlice w h.u ⟨vb,voff,none⟩ 1 vc vs (by rw[hvl,Nat.one_mul]) (fun j u hj=>by rw[Addr.add_lit]; exact hvs j u hj) h1v
 ·rintro e w' ⟨he,hw'⟩;exact r9 h.p h.c (by simp) hvl (grownCap_ge w 1 0 E) he hw'
end
section
set_option maxHeartbeats 4000000
set_option maxRecDepth 1000000
def mix:Tryz.prog.follows .mixedOrders=true:=by kernel_rfl
def DG:El Tryz.prog 52 95 3 32 (.agg #[.string ⟨#[]⟩,.int .i64 0,.int .i64 0]) := .of Tryz.underlying52 (by kernel_rfl) ⟨rfl,rfl⟩ (by omega) (by omega)
def DD:El Tryz.prog 29 54 6 80 (.agg #[.int .i64 0,.int .i64 0,.int .i64 0,.slice none 0 0,.slice none 0 0,.int .i64 0]) := .of Tryz.underlying29 (by kernel_rfl) ⟨rfl,rfl⟩ (by omega) (by omega)
def DE:El Tryz.prog 37 58 3 24 (.agg #[.int .i64 0,.int .i64 0,.int .i64 0]) := .of Tryz.underlying37 (by kernel_rfl) ⟨rfl,rfl⟩ (by omega) (by omega)
def DF:El Tryz.prog 38 67 3 24 (.agg #[.int .i64 0,.int .i64 0,.int .i64 0]) := .of Tryz.underlying38 (by kernel_rfl) ⟨rfl,rfl⟩ (by omega) (by omega)
def Rh:El Tryz.prog 33 97 8 96 (.agg #[.int .i64 0,.int .i64 0,.int .i64 0,.int .i64 0,.int .i64 0,.slice none 0 0,.slice none 0 0,.int .i64 0]) := .of Tryz.underlying33 (by kernel_rfl) ⟨rfl,rfl⟩ (by omega) (by omega)
def Ri:El Tryz.prog 34 104 3 24 (.agg #[.int .i64 0,.int .i64 0,.int .i64 0]) := .of Tryz.underlying34 (by kernel_rfl) ⟨rfl,rfl⟩ (by omega) (by omega)
def Rg:El Tryz.prog 23 5 1 1 (.int .u8 0) := .of Tryz.underlying23 (by kernel_rfl) ⟨rfl,rfl⟩ (by omega) (by omega)
def ac8:oB Tryz.prog 214 52 95:=by
 intro b off n c w K hap;have mixed:=mix;have t25:=Tryz.underlying52;obtain⟨q22,u22⟩:=DG.q
 go_enter Tryz.func214,Tryz.ntmps214
 go_wp2_with (at_builtin; refine hap rfl _ _ rfl rfl rfl ?_)
 intro v' w1 hK
 go_wp2
 go_ret
 exact⟨v',rfl,hK⟩
def ac0:oz Tryz.prog 214 52 95:=by
 intro A c w hrun;have mixed:=mix;have t25:=Tryz.underlying52;obtain⟨q22,u22⟩:=DG.q;cases A with
 |none =>
  go_enter Tryz.func214,Tryz.ntmps214
  go_wp2
  go_ret
  exact⟨⟨_,rfl⟩,.inl rfl⟩
 |some a =>
  go_enter Tryz.func214,Tryz.ntmps214
  go_wp2_with (at_builtin; refine Lib.wpList_append_run _ rfl _ _ _ _ rfl _ _ rfl rfl _ _ (hrun _ _) ?_)
  go_ret
  exact⟨⟨_,rfl⟩,.inr rfl⟩
def ade:oB Tryz.prog 255 29 54:=by
 intro b off n c w K hap;have mixed:=mix;have t25:=Tryz.underlying29;obtain⟨q22,u22⟩:=DD.q
 go_enter Tryz.func255,Tryz.ntmps255
 go_wp2_with (at_builtin; refine hap rfl _ _ rfl rfl rfl ?_)
 intro v' w1 hK
 go_wp2
 go_ret
 exact⟨v',rfl,hK⟩
def ac4:oz Tryz.prog 255 29 54:=by
 intro A c w hrun;have mixed:=mix;have t25:=Tryz.underlying29;obtain⟨q22,u22⟩:=DD.q;cases A with
 |none =>
  go_enter Tryz.func255,Tryz.ntmps255
  go_wp2
  go_ret
  exact⟨⟨_,rfl⟩,.inl rfl⟩
 |some a =>
  go_enter Tryz.func255,Tryz.ntmps255
  go_wp2_with (at_builtin; refine Lib.wpList_append_run _ rfl _ _ _ _ rfl _ _ rfl rfl _ _ (hrun _ _) ?_)
  go_ret
  exact⟨⟨_,rfl⟩,.inr rfl⟩
def ac9:oB Tryz.prog 220 37 58:=by
 intro b off n c w K hap;have mixed:=mix;have t25:=Tryz.underlying37;obtain⟨q22,u22⟩:=DE.q
 go_enter Tryz.func220,Tryz.ntmps220
 go_wp2_with (at_builtin; refine hap rfl _ _ rfl rfl rfl ?_)
 intro v' w1 hK
 go_wp2
 go_ret
 exact⟨v',rfl,hK⟩
def ac1:oz Tryz.prog 220 37 58:=by
 intro A c w hrun;have mixed:=mix;have t25:=Tryz.underlying37;obtain⟨q22,u22⟩:=DE.q;cases A with
 |none =>
  go_enter Tryz.func220,Tryz.ntmps220
  go_wp2
  go_ret
  exact⟨⟨_,rfl⟩,.inl rfl⟩
 |some a =>
  go_enter Tryz.func220,Tryz.ntmps220
  go_wp2_with (at_builtin; refine Lib.wpList_append_run _ rfl _ _ _ _ rfl _ _ rfl rfl _ _ (hrun _ _) ?_)
  go_ret
  exact⟨⟨_,rfl⟩,.inr rfl⟩
def ac7:oB Tryz.prog 202 38 67:=by
 intro b off n c w K hap;have mixed:=mix;have t25:=Tryz.underlying38;obtain⟨q22,u22⟩:=DF.q
 go_enter Tryz.func202,Tryz.ntmps202
 go_wp2_with (at_builtin; refine hap rfl _ _ rfl rfl rfl ?_)
 intro v' w1 hK
 go_wp2
 go_ret
 exact⟨v',rfl,hK⟩
def acZ:oz Tryz.prog 202 38 67:=by
 intro A c w hrun;have mixed:=mix;have t25:=Tryz.underlying38;obtain⟨q22,u22⟩:=DF.q;cases A with
 |none =>
  go_enter Tryz.func202,Tryz.ntmps202
  go_wp2
  go_ret
  exact⟨⟨_,rfl⟩,.inl rfl⟩
 |some a =>
  go_enter Tryz.func202,Tryz.ntmps202
  go_wp2_with (at_builtin; refine Lib.wpList_append_run _ rfl _ _ _ _ rfl _ _ rfl rfl _ _ (hrun _ _) ?_)
  go_ret
  exact⟨⟨_,rfl⟩,.inr rfl⟩
def ada:oB Tryz.prog 224 33 97:=by
 intro b off n c w K hap;have mixed:=mix;have t25:=Tryz.underlying33;obtain⟨q22,u22⟩:=Rh.q
 go_enter Tryz.func224,Tryz.ntmps224
 go_wp2_with (at_builtin; refine hap rfl _ _ rfl rfl rfl ?_)
 intro v' w1 hK
 go_wp2
 go_ret
 exact⟨v',rfl,hK⟩
def ac2:oz Tryz.prog 224 33 97:=by
 intro A c w hrun;have mixed:=mix;have t25:=Tryz.underlying33;obtain⟨q22,u22⟩:=Rh.q;cases A with
 |none =>
  go_enter Tryz.func224,Tryz.ntmps224
  go_wp2
  go_ret
  exact⟨⟨_,rfl⟩,.inl rfl⟩
 |some a =>
  go_enter Tryz.func224,Tryz.ntmps224
  go_wp2_with (at_builtin; refine Lib.wpList_append_run _ rfl _ _ _ _ rfl _ _ rfl rfl _ _ (hrun _ _) ?_)
  go_ret
  exact⟨⟨_,rfl⟩,.inr rfl⟩
def adb:oB Tryz.prog 230 34 104:=by
 intro b off n c w K hap;have mixed:=mix;have t25:=Tryz.underlying34;obtain⟨q22,u22⟩:=Ri.q
 go_enter Tryz.func230,Tryz.ntmps230
 go_wp2_with (at_builtin; refine hap rfl _ _ rfl rfl rfl ?_)
 intro v' w1 hK
 go_wp2
 go_ret
 exact⟨v',rfl,hK⟩
def ac3:oz Tryz.prog 230 34 104:=by
 intro A c w hrun;have mixed:=mix;have t25:=Tryz.underlying34;obtain⟨q22,u22⟩:=Ri.q;cases A with
 |none =>
  go_enter Tryz.func230,Tryz.ntmps230
  go_wp2
  go_ret
  exact⟨⟨_,rfl⟩,.inl rfl⟩
 |some a =>
  go_enter Tryz.func230,Tryz.ntmps230
  go_wp2_with (at_builtin; refine Lib.wpList_append_run _ rfl _ _ _ _ rfl _ _ rfl rfl _ _ (hrun _ _) ?_)
  go_ret
  exact⟨⟨_,rfl⟩,.inr rfl⟩
def ac6:oB Tryz.prog 139 23 5:=by
 intro b off n c w K hap;have mixed:=mix;have t25:=Tryz.underlying23;obtain⟨q22,u22⟩:=Rg.q
 go_enter Tryz.func139,Tryz.ntmps139
 go_wp2_with (at_builtin; refine hap rfl _ _ rfl rfl rfl ?_)
 intro v' w1 hK
 go_wp2
 go_ret
 exact⟨v',rfl,hK⟩
def acY:oz Tryz.prog 139 23 5:=by
 intro A c w hrun;have mixed:=mix;have t25:=Tryz.underlying23;obtain⟨q22,u22⟩:=Rg.q;cases A with
 |none =>
  go_enter Tryz.func139,Tryz.ntmps139
  go_wp2
  go_ret
  exact⟨⟨_,rfl⟩,.inl rfl⟩
 |some a =>
  go_enter Tryz.func139,Tryz.ntmps139
  go_wp2_with (at_builtin; refine Lib.wpList_append_run _ rfl _ _ _ _ rfl _ _ rfl rfl _ _ (hrun _ _) ?_)
  go_ret
  exact⟨⟨_,rfl⟩,.inr rfl⟩
def adi:Ik Tryz.prog 294 29 6:=by
 intro blk cap i j n A w W1 W2 hA hap hcl hcap hm hi hic hij hjc hjn;have mixed:=mix;have t25:=Tryz.underlying29
 go_enter Tryz.func294,Tryz.ntmps294
 go_wp2_with fail
 go_region_law_o (refine jT rfl _ _ 29 29 rfl _ _ (by simp[Act.eval,Act.put]) (by simp[Act.eval,Act.put]) (hap _) ?_)
 go_wp2
 go_ret
 exact⟨rfl,rfl⟩
def adh:Ik Tryz.prog 260 52 3:=by
 intro blk cap i j n A w W1 W2 hA hap hcl hcap hm hi hic hij hjc hjn;have mixed:=mix;have t25:=Tryz.underlying52
 go_enter Tryz.func260,Tryz.ntmps260
 go_wp2_with fail
 go_region_law_o (refine jT rfl _ _ 52 52 rfl _ _ (by simp[Act.eval,Act.put]) (by simp[Act.eval,Act.put]) (hap _) ?_)
 go_wp2
 go_ret
 exact⟨rfl,rfl⟩
def adf:Ik Tryz.prog 223 37 3:=by
 intro blk cap i j n A w W1 W2 hA hap hcl hcap hm hi hic hij hjc hjn;have mixed:=mix;have t25:=Tryz.underlying37
 go_enter Tryz.func223,Tryz.ntmps223
 go_wp2_with fail
 go_region_law_o (refine jT rfl _ _ 37 37 rfl _ _ (by simp[Act.eval,Act.put]) (by simp[Act.eval,Act.put]) (hap _) ?_)
 go_wp2
 go_ret
 exact⟨rfl,rfl⟩
def adg:Ik Tryz.prog 228 38 3:=by
 intro blk cap i j n A w W1 W2 hA hap hcl hcap hm hi hic hij hjc hjn;have mixed:=mix;have t25:=Tryz.underlying38
 go_enter Tryz.func228,Tryz.ntmps228
 go_wp2_with fail
 go_region_law_o (refine jT rfl _ _ 38 38 rfl _ _ (by simp[Act.eval,Act.put]) (by simp[Act.eval,Act.put]) (hap _) ?_)
 go_wp2
 go_ret
 exact⟨rfl,rfl⟩
def ahy:vD Tryz.prog 256 290 29 6:=by
 intro b n c i vb voff vc vs w W1 hov hcp1 hcp2 hi hroom hc63 hz2 hw1 hb1 hin htn hb2 hb3 hb4;have mixed:=mix;have t25:=Tryz.underlying29
 go_enter Tryz.func256,Tryz.ntmps256
 go_wp2_with (simp only[hov])
 go_region_law_o (refine gh rfl _ _ 29 29 rfl _ _ (by simp[Act.eval,Act.put]) (by simp[Act.eval,Act.put]) (hcp1 _ _ _) ?_)
 go_wp2_with (at_builtin; refine dj _ rfl _ _ 29 29 rfl _ _ rfl rfl (hcp2 _ (fun _=>rfl) (fun _=>rfl) _ _) ?_)
 go_ret
 exact⟨rfl,rfl⟩
def UB:Gk Tryz.prog 256 29:=by
 intro base n c vb voff vc V w W hrun hnc hroom hnil;have t25:=Tryz.underlying29
 go_enter Tryz.func256,Tryz.ntmps256
 cases base with
 |none =>
  have h0:=hnil rfl;subst h0
  go_wp2_with (at_builtin; refine Lib.wpList_append_run _ rfl _ _ _ _ rfl _ _ rfl rfl _ _ (hrun _) ?_)
  go_ret
  exact⟨rfl,rfl⟩
 |some a =>
  obtain⟨ab,ao,asp⟩:=a
  go_wp2_with (at_builtin; refine Lib.wpList_append_run _ rfl _ _ _ _ rfl _ _ rfl rfl _ _ (hrun _) ?_)
  all_goals (go_ret; exact⟨rfl,rfl⟩)
def adR:Ao Tryz.prog 256 29 54 6:=by
 intro b n c i G vb voff vc ROW vs ds w hrz hcpA hcpB hE1 hE2 hF1 hF2 hi hnc hroom hz2 hz3 hGn hG63 hGi hGim hci hw1 hb1 hin htn hb3 hle;have mixed:=mix;have t25:=Tryz.underlying29
 go_enter Tryz.func256,Tryz.ntmps256
 go_wp2_with (first
  |(at_builtin; refine Lib.wpList_append_run _ rfl _ _ _ _ rfl _ _ rfl rfl _ _ (hrz _) ?_)
  |(at_builtin; refine dj _ rfl _ _ 29 29 rfl _ _ rfl rfl (hcpA _ hE1 hE2 _ _) ?_)
  |(at_builtin; refine dj _ rfl _ _ 29 29 rfl _ _ rfl rfl (hcpB _ (fun _=>rfl) (fun _=>rfl) _ _ _) ?_))
 go_region_law_o (refine gh rfl _ _ 29 29 rfl (.slice (some ⟨w.heap.size,(i+1)*6,none⟩) (n+1-(i+1)) (G-(i+1))) (.slice (some ⟨b,i*6,none⟩) (n-i) (c-i)) (by simp[Act.eval,Act.put]) (by simp[Act.eval,Act.put]) (hcpB _ hF1 hF2 3 (G-(i+1)) (c-i)) ?_)
 go_wp2
 go_ret
 exact⟨rfl,rfl⟩
def ahz:vD Tryz.prog 257 292 52 3:=by
 intro b n c i vb voff vc vs w W1 hov hcp1 hcp2 hi hroom hc63 hz2 hw1 hb1 hin htn hb2 hb3 hb4;have mixed:=mix;have t25:=Tryz.underlying52
 go_enter Tryz.func257,Tryz.ntmps257
 go_wp2_with (simp only[hov])
 go_region_law_o (refine gh rfl _ _ 52 52 rfl _ _ (by simp[Act.eval,Act.put]) (by simp[Act.eval,Act.put]) (hcp1 _ _ _) ?_)
 go_wp2_with (at_builtin; refine dj _ rfl _ _ 52 52 rfl _ _ rfl rfl (hcp2 _ (fun _=>rfl) (fun _=>rfl) _ _) ?_)
 go_ret
 exact⟨rfl,rfl⟩
def UC:Gk Tryz.prog 257 52:=by
 intro base n c vb voff vc V w W hrun hnc hroom hnil;have t25:=Tryz.underlying52
 go_enter Tryz.func257,Tryz.ntmps257
 cases base with
 |none =>
  have h0:=hnil rfl;subst h0
  go_wp2_with (at_builtin; refine Lib.wpList_append_run _ rfl _ _ _ _ rfl _ _ rfl rfl _ _ (hrun _) ?_)
  go_ret
  exact⟨rfl,rfl⟩
 |some a =>
  obtain⟨ab,ao,asp⟩:=a
  go_wp2_with (at_builtin; refine Lib.wpList_append_run _ rfl _ _ _ _ rfl _ _ rfl rfl _ _ (hrun _) ?_)
  all_goals (go_ret; exact⟨rfl,rfl⟩)
def adS:Ao Tryz.prog 257 52 95 3:=by
 intro b n c i G vb voff vc ROW vs ds w hrz hcpA hcpB hE1 hE2 hF1 hF2 hi hnc hroom hz2 hz3 hGn hG63 hGi hGim hci hw1 hb1 hin htn hb3 hle;have mixed:=mix;have t25:=Tryz.underlying52
 go_enter Tryz.func257,Tryz.ntmps257
 go_wp2_with (first
  |(at_builtin; refine Lib.wpList_append_run _ rfl _ _ _ _ rfl _ _ rfl rfl _ _ (hrz _) ?_)
  |(at_builtin; refine dj _ rfl _ _ 52 52 rfl _ _ rfl rfl (hcpA _ hE1 hE2 _ _) ?_)
  |(at_builtin; refine dj _ rfl _ _ 52 52 rfl _ _ rfl rfl (hcpB _ (fun _=>rfl) (fun _=>rfl) _ _ _) ?_))
 go_region_law_o (refine gh rfl _ _ 52 52 rfl (.slice (some ⟨w.heap.size,(i+1)*3,none⟩) (n+1-(i+1)) (G-(i+1))) (.slice (some ⟨b,i*3,none⟩) (n-i) (c-i)) (by simp[Act.eval,Act.put]) (by simp[Act.eval,Act.put]) (hcpB _ hF1 hF2 3 (G-(i+1)) (c-i)) ?_)
 go_wp2
 go_ret
 exact⟨rfl,rfl⟩
def ahw:vD Tryz.prog 219 268 37 3:=by
 intro b n c i vb voff vc vs w W1 hov hcp1 hcp2 hi hroom hc63 hz2 hw1 hb1 hin htn hb2 hb3 hb4;have mixed:=mix;have t25:=Tryz.underlying37
 go_enter Tryz.func219,Tryz.ntmps219
 go_wp2_with (simp only[hov])
 go_region_law_o (refine gh rfl _ _ 37 37 rfl _ _ (by simp[Act.eval,Act.put]) (by simp[Act.eval,Act.put]) (hcp1 _ _ _) ?_)
 go_wp2_with (at_builtin; refine dj _ rfl _ _ 37 37 rfl _ _ rfl rfl (hcp2 _ (fun _=>rfl) (fun _=>rfl) _ _) ?_)
 go_ret
 exact⟨rfl,rfl⟩
def Uz:Gk Tryz.prog 219 37:=by
 intro base n c vb voff vc V w W hrun hnc hroom hnil;have t25:=Tryz.underlying37
 go_enter Tryz.func219,Tryz.ntmps219
 cases base with
 |none =>
  have h0:=hnil rfl;subst h0
  go_wp2_with (at_builtin; refine Lib.wpList_append_run _ rfl _ _ _ _ rfl _ _ rfl rfl _ _ (hrun _) ?_)
  go_ret
  exact⟨rfl,rfl⟩
 |some a =>
  obtain⟨ab,ao,asp⟩:=a
  go_wp2_with (at_builtin; refine Lib.wpList_append_run _ rfl _ _ _ _ rfl _ _ rfl rfl _ _ (hrun _) ?_)
  all_goals (go_ret; exact⟨rfl,rfl⟩)
def adP:Ao Tryz.prog 219 37 58 3:=by
 intro b n c i G vb voff vc ROW vs ds w hrz hcpA hcpB hE1 hE2 hF1 hF2 hi hnc hroom hz2 hz3 hGn hG63 hGi hGim hci hw1 hb1 hin htn hb3 hle;have mixed:=mix;have t25:=Tryz.underlying37
 go_enter Tryz.func219,Tryz.ntmps219
 go_wp2_with (first
  |(at_builtin; refine Lib.wpList_append_run _ rfl _ _ _ _ rfl _ _ rfl rfl _ _ (hrz _) ?_)
  |(at_builtin; refine dj _ rfl _ _ 37 37 rfl _ _ rfl rfl (hcpA _ hE1 hE2 _ _) ?_)
  |(at_builtin; refine dj _ rfl _ _ 37 37 rfl _ _ rfl rfl (hcpB _ (fun _=>rfl) (fun _=>rfl) _ _ _) ?_))
 go_region_law_o (refine gh rfl _ _ 37 37 rfl (.slice (some ⟨w.heap.size,(i+1)*3,none⟩) (n+1-(i+1)) (G-(i+1))) (.slice (some ⟨b,i*3,none⟩) (n-i) (c-i)) (by simp[Act.eval,Act.put]) (by simp[Act.eval,Act.put]) (hcpB _ hF1 hF2 3 (G-(i+1)) (c-i)) ?_)
 go_wp2
 go_ret
 exact⟨rfl,rfl⟩
def ahx:vD Tryz.prog 229 270 38 3:=by
 intro b n c i vb voff vc vs w W1 hov hcp1 hcp2 hi hroom hc63 hz2 hw1 hb1 hin htn hb2 hb3 hb4;have mixed:=mix;have t25:=Tryz.underlying38
 go_enter Tryz.func229,Tryz.ntmps229
 go_wp2_with (simp only[hov])
 go_region_law_o (refine gh rfl _ _ 38 38 rfl _ _ (by simp[Act.eval,Act.put]) (by simp[Act.eval,Act.put]) (hcp1 _ _ _) ?_)
 go_wp2_with (at_builtin; refine dj _ rfl _ _ 38 38 rfl _ _ rfl rfl (hcp2 _ (fun _=>rfl) (fun _=>rfl) _ _) ?_)
 go_ret
 exact⟨rfl,rfl⟩
def UA:Gk Tryz.prog 229 38:=by
 intro base n c vb voff vc V w W hrun hnc hroom hnil;have t25:=Tryz.underlying38
 go_enter Tryz.func229,Tryz.ntmps229
 cases base with
 |none =>
  have h0:=hnil rfl;subst h0
  go_wp2_with (at_builtin; refine Lib.wpList_append_run _ rfl _ _ _ _ rfl _ _ rfl rfl _ _ (hrun _) ?_)
  go_ret
  exact⟨rfl,rfl⟩
 |some a =>
  obtain⟨ab,ao,asp⟩:=a
  go_wp2_with (at_builtin; refine Lib.wpList_append_run _ rfl _ _ _ _ rfl _ _ rfl rfl _ _ (hrun _) ?_)
  all_goals (go_ret; exact⟨rfl,rfl⟩)
def adQ:Ao Tryz.prog 229 38 67 3:=by
 intro b n c i G vb voff vc ROW vs ds w hrz hcpA hcpB hE1 hE2 hF1 hF2 hi hnc hroom hz2 hz3 hGn hG63 hGi hGim hci hw1 hb1 hin htn hb3 hle;have mixed:=mix;have t25:=Tryz.underlying38
 go_enter Tryz.func229,Tryz.ntmps229
 go_wp2_with (first
  |(at_builtin; refine Lib.wpList_append_run _ rfl _ _ _ _ rfl _ _ rfl rfl _ _ (hrz _) ?_)
  |(at_builtin; refine dj _ rfl _ _ 38 38 rfl _ _ rfl rfl (hcpA _ hE1 hE2 _ _) ?_)
  |(at_builtin; refine dj _ rfl _ _ 38 38 rfl _ _ rfl rfl (hcpB _ (fun _=>rfl) (fun _=>rfl) _ _ _) ?_))
 go_region_law_o (refine gh rfl _ _ 38 38 rfl (.slice (some ⟨w.heap.size,(i+1)*3,none⟩) (n+1-(i+1)) (G-(i+1))) (.slice (some ⟨b,i*3,none⟩) (n-i) (c-i)) (by simp[Act.eval,Act.put]) (by simp[Act.eval,Act.put]) (hcpB _ hF1 hF2 3 (G-(i+1)) (c-i)) ?_)
 go_wp2
 go_ret
 exact⟨rfl,rfl⟩
end
def GF{args:List ae}{M:aj}{x:ae×aj}(h:fq 3 32 args M=some x):bn Tryz.prog 214 args M x:=jW (by omega) (by omega) (lh DG ac8) (jE DG ac0) h
def GH{args:List ae}{M:aj}{x:ae×aj}(h:fq 6 80 args M=some x):bn Tryz.prog 255 args M x:=jW (by omega) (by omega) (lh DD ade) (jE DD ac4) h
def GG{args:List ae}{M:aj}{x:ae×aj}(h:fq 3 24 args M=some x):bn Tryz.prog 220 args M x:=jW (by omega) (by omega) (lh DE ac9) (jE DE ac1) h
def GD{args:List ae}{M:aj}{x:ae×aj}(h:fq 3 24 args M=some x):bn Tryz.prog 202 args M x:=jW (by omega) (by omega) (lh DF ac7) (jE DF acZ) h
def Dm{args:List ae}{M:aj}{x:ae×aj}(h:jR 8 96 args M=some x):bn Tryz.prog 224 args M x:=rN (by omega) (by omega) (lh Rh ada) (jE Rh ac2) h
def Dn{args:List ae}{M:aj}{x:ae×aj}(h:jR 3 24 args M=some x):bn Tryz.prog 230 args M x:=rN (by omega) (by omega) (lh Ri adb) (jE Ri ac3) h
def Wm{args:List ae}{M:aj}{x:ae×aj}(h:Zi 1 1 args M=some x):bn Tryz.prog 139 args M x:=I1 (by omega) (by omega) (lh Rg ac6) (jE Rg acY) h
def GN{args:List ae}{M:aj}{x:ae×aj}(h:eL 6 args M=some x):bn Tryz.prog 294 args M x:=kB (sz:=6) (z:=(Value.agg #[.int .i64 0,.int .i64 0,.int .i64 0,.slice none 0 0,.slice none 0 0,.int .i64 0]).cells.toList) (by omega) rfl (zq DD adi) h
def GM{args:List ae}{M:aj}{x:ae×aj}(h:eL 3 args M=some x):bn Tryz.prog 260 args M x:=kB (sz:=3) (z:=(Value.agg #[.string ⟨#[]⟩,.int .i64 0,.int .i64 0]).cells.toList) (by omega) rfl (zq DG adh) h
def GK{args:List ae}{M:aj}{x:ae×aj}(h:eL 3 args M=some x):bn Tryz.prog 223 args M x:=kB (sz:=3) (z:=(Value.agg #[.int .i64 0,.int .i64 0,.int .i64 0]).cells.toList) (by omega) rfl (zq DE adf) h
def GL{args:List ae}{M:aj}{x:ae×aj}(h:eL 3 args M=some x):bn Tryz.prog 228 args M x:=kB (sz:=3) (z:=(Value.agg #[.int .i64 0,.int .i64 0,.int .i64 0]).cells.toList) (by omega) rfl (zq DF adg) h
def Hf{args:List ae}{M:aj}{x:ae×aj}(h:eD 6 80 args M=some x):bn Tryz.prog 256 args M x:=kD (by omega) (by omega) (vu DD Tryz.underlying3 (fun args w=>run_callFunc_extern Tryz.func290 (by kernel_rfl) (by kernel_rfl) (by kernel_rfl) (by kernel_rfl) args w) ahy UB adR) (vv DD (by omega) UB) h
def Hg{args:List ae}{M:aj}{x:ae×aj}(h:eD 3 32 args M=some x):bn Tryz.prog 257 args M x:=kD (by omega) (by omega) (vu DG Tryz.underlying3 (fun args w=>run_callFunc_extern Tryz.func292 (by kernel_rfl) (by kernel_rfl) (by kernel_rfl) (by kernel_rfl) args w) ahz UC adS) (vv DG (by omega) UC) h
def Hc{args:List ae}{M:aj}{x:ae×aj}(h:eD 3 24 args M=some x):bn Tryz.prog 219 args M x:=kD (by omega) (by omega) (vu DE Tryz.underlying3 (fun args w=>run_callFunc_extern Tryz.func268 (by kernel_rfl) (by kernel_rfl) (by kernel_rfl) (by kernel_rfl) args w) ahw Uz adP) (vv DE (by omega) Uz) h
def He{args:List ae}{M:aj}{x:ae×aj}(h:eD 3 24 args M=some x):bn Tryz.prog 229 args M x:=kD (by omega) (by omega) (vu DF Tryz.underlying3 (fun args w=>run_callFunc_extern Tryz.func270 (by kernel_rfl) (by kernel_rfl) (by kernel_rfl) (by kernel_rfl) args w) ahx UA adQ) (vv DF (by omega) UA) h
end Go.Proofs.YtahkjijkflobhaaGreatDoor
namespace Go.Proofs
open Go.Shelf
def Tryz.CC:Go.Shelf.Ren:=⟨fun|6=>216|15=>242|14=>267|28=>284|29=>285|20=>297|21=>298|22=>299|23=>300|24=>301|25=>302|26=>303|27=>304|46=>320|47=>310|48=>311|49=>321|50=>322|57=>332|n=>n,fun|22=>52|24=>95|25=>267|3=>3|39=>287|0=>0|53=>321|55=>323|4=>4|46=>315|45=>314|50=>141|5=>5|9=>9|66=>334|70=>338|76=>351|77=>64|n=>n,fun|n=>n⟩
def Tryz.F4:Go.Proofs.SlLaysF0.n6 Tryz.prog Tryz.CC:={
 mixed:=by kernel_rfl
 f6:=⟨Tryz.f216.name,by decide,Tryz.func216.trans (congrArg some (by kernel_rfl))⟩
 f14:=⟨Tryz.f267.name,by decide,Tryz.func267.trans (congrArg some (by kernel_rfl))⟩
 f15:=Tryz.func242.trans (congrArg some (by kernel_rfl))
 f20:=⟨Tryz.f297.name,by decide,Tryz.func297.trans (congrArg some (by kernel_rfl))⟩
 f21:=⟨Tryz.f298.name,by decide,Tryz.func298.trans (congrArg some (by kernel_rfl))⟩
 f22:=⟨Tryz.f299.name,by decide,Tryz.func299.trans (congrArg some (by kernel_rfl))⟩
 f23:=⟨Tryz.f300.name,by decide,Tryz.func300.trans (congrArg some (by kernel_rfl))⟩
 f24:=⟨Tryz.f301.name,by decide,Tryz.func301.trans (congrArg some (by kernel_rfl))⟩
 f25:=⟨Tryz.f302.name,by decide,Tryz.func302.trans (congrArg some (by kernel_rfl))⟩
 f26:=⟨Tryz.f303.name,by decide,Tryz.func303.trans (congrArg some (by kernel_rfl))⟩
 f27:=⟨Tryz.f304.name,by decide,Tryz.func304.trans (congrArg some (by kernel_rfl))⟩
 f28:=Tryz.func284.trans (congrArg some (by kernel_rfl))
 f29:=Tryz.func285.trans (congrArg some (by kernel_rfl))
 f46:=⟨Tryz.f320.name,by decide,Tryz.func320.trans (congrArg some (by kernel_rfl))⟩
 f47:=Tryz.func310.trans (congrArg some (by kernel_rfl))
 f48:=Tryz.func311.trans (congrArg some (by kernel_rfl))
 f49:=⟨Tryz.f321.name,by decide,Tryz.func321.trans (congrArg some (by kernel_rfl))⟩
 f50:=⟨Tryz.f322.name,by decide,Tryz.func322.trans (congrArg some (by kernel_rfl))⟩
 f57:=⟨Tryz.f332.name,by decide,Tryz.func332.trans (congrArg some (by kernel_rfl))⟩
 t0:=Tryz.underlying0
 a0:=Tryz.isAgg0
 z0:=Tryz.sizeOf0
 v0:=Tryz.zeroValue0
 t3:=Tryz.underlying3
 a3:=Tryz.isAgg3
 z3:=Tryz.sizeOf3
 v3:=Tryz.zeroValue3
 t4:=Tryz.underlying4
 a4:=Tryz.isAgg4
 z4:=Tryz.sizeOf4
 v4:=Tryz.zeroValue4
 t5:=Tryz.underlying5
 a5:=Tryz.isAgg5
 z5:=Tryz.sizeOf5
 v5:=Tryz.zeroValue5
 t9:=Tryz.underlying9
 a9:=Tryz.isAgg9
 z9:=Tryz.sizeOf9
 v9:=Tryz.zeroValue9
 t22:=Tryz.underlying52
 a22:=Tryz.isAgg52
 z22:=Tryz.sizeOf52
 v22:=Tryz.zeroValue52
 t25:=Tryz.underlying267
 a25:=Tryz.isAgg267
 z25:=Tryz.sizeOf267
 v25:=Tryz.zeroValue267
 t39:=Tryz.underlying287
 a39:=Tryz.isAgg287
 z39:=Tryz.sizeOf287
 v39:=Tryz.zeroValue287
 t45:=Tryz.underlying314
 a45:=Tryz.isAgg314
 z45:=Tryz.sizeOf314
 v45:=Tryz.zeroValue314
 t46:=Tryz.underlying315
 a46:=Tryz.isAgg315
 z46:=Tryz.sizeOf315
 v46:=Tryz.zeroValue315
 t50:=Tryz.underlying141
 a50:=Tryz.isAgg141
 z50:=Tryz.sizeOf141
 v50:=Tryz.zeroValue141
 t53:=Tryz.underlying321
 a53:=Tryz.isAgg321
 z53:=Tryz.sizeOf321
 v53:=Tryz.zeroValue321
 t55:=Tryz.underlying323
 a55:=Tryz.isAgg323
 z55:=Tryz.sizeOf323
 v55:=Tryz.zeroValue323
 t66:=Tryz.underlying334
 a66:=Tryz.isAgg334
 z66:=Tryz.sizeOf334
 v66:=Tryz.zeroValue334
 t70:=Tryz.underlying338
 a70:=Tryz.isAgg338
 z70:=Tryz.sizeOf338
 v70:=Tryz.zeroValue338
 t76:=Tryz.underlying351
 a76:=Tryz.isAgg351
 z76:=Tryz.sizeOf351
 v76:=Tryz.zeroValue351
 t77:=Tryz.underlying64
 a77:=Tryz.isAgg64
 z77:=Tryz.sizeOf64
 v77:=Tryz.zeroValue64 }
def Tryz.Ab:Go.Shelf.Ren:=⟨fun|6=>158|15=>242|14=>241|28=>284|29=>285|20=>276|21=>277|22=>278|23=>279|24=>280|25=>281|26=>282|27=>283|46=>309|47=>310|48=>311|49=>312|50=>313|57=>327|n=>n,fun|22=>29|24=>54|25=>216|3=>3|39=>287|0=>0|53=>321|55=>323|4=>4|46=>315|45=>314|50=>141|5=>5|9=>9|66=>334|70=>338|76=>351|77=>64|n=>n,fun|n=>n⟩
def Tryz.CE:Go.Proofs.SlLaysF0.n6 Tryz.prog Tryz.Ab:={
 mixed:=by kernel_rfl
 f6:=⟨Tryz.f158.name,by decide,Tryz.func158.trans (congrArg some (by kernel_rfl))⟩
 f14:=⟨Tryz.f241.name,by decide,Tryz.func241.trans (congrArg some (by kernel_rfl))⟩
 f15:=Tryz.func242.trans (congrArg some (by kernel_rfl))
 f20:=⟨Tryz.f276.name,by decide,Tryz.func276.trans (congrArg some (by kernel_rfl))⟩
 f21:=⟨Tryz.f277.name,by decide,Tryz.func277.trans (congrArg some (by kernel_rfl))⟩
 f22:=⟨Tryz.f278.name,by decide,Tryz.func278.trans (congrArg some (by kernel_rfl))⟩
 f23:=⟨Tryz.f279.name,by decide,Tryz.func279.trans (congrArg some (by kernel_rfl))⟩
 f24:=⟨Tryz.f280.name,by decide,Tryz.func280.trans (congrArg some (by kernel_rfl))⟩
 f25:=⟨Tryz.f281.name,by decide,Tryz.func281.trans (congrArg some (by kernel_rfl))⟩
 f26:=⟨Tryz.f282.name,by decide,Tryz.func282.trans (congrArg some (by kernel_rfl))⟩
 f27:=⟨Tryz.f283.name,by decide,Tryz.func283.trans (congrArg some (by kernel_rfl))⟩
 f28:=Tryz.func284.trans (congrArg some (by kernel_rfl))
 f29:=Tryz.func285.trans (congrArg some (by kernel_rfl))
 f46:=⟨Tryz.f309.name,by decide,Tryz.func309.trans (congrArg some (by kernel_rfl))⟩
 f47:=Tryz.func310.trans (congrArg some (by kernel_rfl))
 f48:=Tryz.func311.trans (congrArg some (by kernel_rfl))
 f49:=⟨Tryz.f312.name,by decide,Tryz.func312.trans (congrArg some (by kernel_rfl))⟩
 f50:=⟨Tryz.f313.name,by decide,Tryz.func313.trans (congrArg some (by kernel_rfl))⟩
 f57:=⟨Tryz.f327.name,by decide,Tryz.func327.trans (congrArg some (by kernel_rfl))⟩
 t0:=Tryz.underlying0
 a0:=Tryz.isAgg0
 z0:=Tryz.sizeOf0
 v0:=Tryz.zeroValue0
 t3:=Tryz.underlying3
 a3:=Tryz.isAgg3
 z3:=Tryz.sizeOf3
 v3:=Tryz.zeroValue3
 t4:=Tryz.underlying4
 a4:=Tryz.isAgg4
 z4:=Tryz.sizeOf4
 v4:=Tryz.zeroValue4
 t5:=Tryz.underlying5
 a5:=Tryz.isAgg5
 z5:=Tryz.sizeOf5
 v5:=Tryz.zeroValue5
 t9:=Tryz.underlying9
 a9:=Tryz.isAgg9
 z9:=Tryz.sizeOf9
 v9:=Tryz.zeroValue9
 t22:=Tryz.underlying29
 a22:=Tryz.isAgg29
 z22:=Tryz.sizeOf29
 v22:=Tryz.zeroValue29
 t25:=Tryz.underlying216
 a25:=Tryz.isAgg216
 z25:=Tryz.sizeOf216
 v25:=Tryz.zeroValue216
 t39:=Tryz.underlying287
 a39:=Tryz.isAgg287
 z39:=Tryz.sizeOf287
 v39:=Tryz.zeroValue287
 t45:=Tryz.underlying314
 a45:=Tryz.isAgg314
 z45:=Tryz.sizeOf314
 v45:=Tryz.zeroValue314
 t46:=Tryz.underlying315
 a46:=Tryz.isAgg315
 z46:=Tryz.sizeOf315
 v46:=Tryz.zeroValue315
 t50:=Tryz.underlying141
 a50:=Tryz.isAgg141
 z50:=Tryz.sizeOf141
 v50:=Tryz.zeroValue141
 t53:=Tryz.underlying321
 a53:=Tryz.isAgg321
 z53:=Tryz.sizeOf321
 v53:=Tryz.zeroValue321
 t55:=Tryz.underlying323
 a55:=Tryz.isAgg323
 z55:=Tryz.sizeOf323
 v55:=Tryz.zeroValue323
 t66:=Tryz.underlying334
 a66:=Tryz.isAgg334
 z66:=Tryz.sizeOf334
 v66:=Tryz.zeroValue334
 t70:=Tryz.underlying338
 a70:=Tryz.isAgg338
 z70:=Tryz.sizeOf338
 v70:=Tryz.zeroValue338
 t76:=Tryz.underlying351
 a76:=Tryz.isAgg351
 z76:=Tryz.sizeOf351
 v76:=Tryz.zeroValue351
 t77:=Tryz.underlying64
 a77:=Tryz.isAgg64
 z77:=Tryz.sizeOf64
 v77:=Tryz.zeroValue64 }
def Tryz.Dr:Go.Shelf.Ren:=⟨fun|5=>154|7=>239|n=>n,fun|22=>3|3=>3|4=>4|n=>n,fun|n=>n⟩
def Tryz.I2:Go.Proofs.SlLaysC2.n5 Tryz.prog Tryz.Dr:={
 mixed:=by kernel_rfl
 f5:=⟨Tryz.f154.name,by decide,Tryz.func154.trans (congrArg some (by kernel_rfl))⟩
 f7:=⟨Tryz.f239.name,by decide,Tryz.func239.trans (congrArg some (by kernel_rfl))⟩
 t3:=Tryz.underlying3
 a3:=Tryz.isAgg3
 z3:=Tryz.sizeOf3
 v3:=Tryz.zeroValue3
 t4:=Tryz.underlying4
 a4:=Tryz.isAgg4
 z4:=Tryz.sizeOf4
 v4:=Tryz.zeroValue4
 t22:=Tryz.underlying3
 a22:=Tryz.isAgg3
 z22:=Tryz.sizeOf3
 v22:=Tryz.zeroValue3 }
end Go.Proofs
namespace Go.Proofs.YtahkjijkflobhaaGreatDoor
open Go Go.Shelf Go.RowKit Go.Lib Go.Sort
set_option maxHeartbeats 1000000 in
def Dq(v0 v1 u0 u1:Value)(x y:Int)(W:World):Calls Tryz.prog 217 #[.agg #[v0,v1,.int .i64 x],.agg #[u0,u1,.int .i64 y]] W fun e w'=>e = .returned (.int .i64 (Lib.compareInt x y))/\∃q os',w'=grow (W.drewN q) os':=by
 have hcon:=fun W'=>AnyG.cmp_Compare_int Tryz.I2 x y W'
 change ∀W',Calls Tryz.prog 154 _ _ _ at hcon;generalize Lib.compareInt x y=r at hcon ⊢
 go_enter Tryz.func217,Tryz.ntmps217
 go_wp2_with (go_at_call 154; refine(hcon _).mono ?_; rintro e w' ⟨rfl,rfl⟩)
 go_ret
 exact⟨rfl,0,_,by rw[alloc_eq_grow,alloc_eq_grow,grow_grow]; rfl⟩
set_option maxHeartbeats 1000000 in
def Dp(v1 v2 v3 v4 v5 u1 u2 u3 u4 u5:Value)(x y:Int)(W:World):Calls Tryz.prog 159 #[.agg #[.int .i64 x,v1,v2,v3,v4,v5],.agg #[.int .i64 y,u1,u2,u3,u4,u5]] W fun e w'=>e = .returned (.int .i64 (Lib.compareInt x y))/\∃q os',w'=grow (W.drewN q) os':=by
 have hcon:=fun W'=>AnyG.cmp_Compare_int Tryz.I2 x y W'
 change ∀W',Calls Tryz.prog 154 _ _ _ at hcon;generalize Lib.compareInt x y=r at hcon ⊢
 go_enter Tryz.func159,Tryz.ntmps159
 go_wp2_with (go_at_call 154; refine(hcon _).mono ?_; rintro e w' ⟨rfl,rfl⟩)
 go_ret
 exact⟨rfl,0,_,by rw[alloc_eq_grow,alloc_eq_grow,grow_grow]; rfl⟩
structure EL(sz p:Nat) where
 l:List Value
 hl:l.length=sz
 h1:∀v∈l,v.oneCell'=true
 n:Int
 hn:l[p]?=some (.int .i64 n)
def Us{sz p:Nat}(a b:EL sz p):Int:=Lib.compareInt a.n b.n
def ltE{sz p:Nat}(x y:EL sz p):ltOf Us x y=decide (x.n<y.n):=by
 unfold ltOf Us Lib.compareInt
 by_cases h1:x.n<y.n
 ·simp[h1]
 ·by_cases h2:y.n<x.n<;>simp[h1,h2]
def ahA{sz p:Nat}:SWO (ltOf (Us (sz:=sz) (p:=p))) where
 irrefl x:=by rw[ltE]; simp
 trans x y z h1 h2:=by rw[ltE] at *; simp at *; omega
 ntrans x y z h1 h2:=by rw[ltE] at *; simp at *; omega
def Dt[Inhabited (EL 3 2)](blk off size:Nat)(w:World):CmpLays Tryz.prog 217 #[] (EL.l (sz:=3) (p:=2)) 3 Us blk off size w:=fun _ _ _ _ x y=>by
 obtain⟨l,hl,h1,n,hn⟩:=x;obtain⟨l',hl',h1',n',hn'⟩:=y
 match l,hl,hn,l',hl',hn' with
 | [a,b,c],_,hn,[a',b',c'],_,hn' =>
  cases hn;cases hn';exact Dq a b a' b' n n' _
def Ds[Inhabited (EL 6 0)](blk off size:Nat)(w:World):CmpLays Tryz.prog 159 #[] (EL.l (sz:=6) (p:=0)) 6 Us blk off size w:=fun _ _ _ _ x y=>by
 obtain⟨l,hl,h1,n,hn⟩:=x;obtain⟨l',hl',h1',n',hn'⟩:=y
 match l,hl,hn,l',hl',hn' with
 | [a,b,c,d,e,f],_,hn,[a',b',c',d',e',f'],_,hn' =>
  cases hn;cases hn';exact Dp b c d e f b' c' d' e' f' n n' _
end Go.Proofs.YtahkjijkflobhaaGreatDoor
namespace Go.Abs
open Go
def LG(p:Nat)(x:ae):Option Int:=match x.cells[p]? with
 |some (.int .i64 n)=>some n
 |_=>none
def kE(p:Nat)(x:ae):Int:=(LG p x).getD 0
def wA(p:Nat)(x:ae):List ae->List ae
 | []=>[x]
 |y::r=>if kE p x<kE p y then x::y::r else y::wA p x r
def jo(p:Nat):List ae->List ae
 | []=>[]
 |x::r=>wA p x (jo p r)
def tN(p:Nat)(x:ae):∀l,(wA p x l).Perm (x::l)
 | [] => .refl _
 |y::r=>by
  rw[wA];split
  ·exact .refl _
  ·exact((tN p x r).cons y).trans (.swap x y r)
def lO(p:Nat):∀l,(jo p l).Perm l
 | [] => .refl _
 |x::r=>(tN p x _).trans ((lO p r).cons x)
def Fo(p:Nat)(x:ae):∀l:List ae,l.Pairwise (fun a b=>kE p a<=kE p b)->(wA p x l).Pairwise fun a b=>kE p a<=kE p b
 | [],_=>by simp[wA]
 |y::r,h=>by
  obtain⟨h1,h2⟩:=List.pairwise_cons.1 h;rw[wA];split
  ·rename_i hlt;refine List.pairwise_cons.2 ⟨fun b hb=>?_,h⟩
   rcases List.mem_cons.1 hb with rfl|hb
   ·omega
   ·have:=h1 b hb; omega
  ·rename_i hge;refine List.pairwise_cons.2 ⟨fun b hb=>?_,Fo p x r h2⟩
   rcases List.mem_cons.1 ((tN p x r).mem_iff.1 hb) with rfl|hb
   ·omega
   ·exact h1 b hb
def CD(p:Nat):∀l,(jo p l).Pairwise fun a b=>kE p a<=kE p b
 | [] => .nil
 |x::r=>Fo p x _ (CD p r)
def AD:∀ {a b:List Int},a.Pairwise (· < ·)->b.Pairwise (· < ·)->(∀m,m∈a↔m∈b)->a=b
 | [],[],_,_,_=>rfl
 | [],y::b,_,_,h=>by have:=(h y).2 List.mem_cons_self; cases this
 |x::a,[],_,_,h=>by have:=(h x).1 List.mem_cons_self; cases this
 |x::a,y::b,ha,hb,h=>by
  obtain⟨a1,a2⟩:=List.pairwise_cons.1 ha;obtain⟨b1,b2⟩:=List.pairwise_cons.1 hb
  have hxy:x=y:=by
   rcases List.mem_cons.1 ((h x).1 List.mem_cons_self) with h1|h1
   ·exact h1
   ·rcases List.mem_cons.1 ((h y).2 List.mem_cons_self) with h2|h2
    ·exact h2.symm
    ·have:=b1 x h1; have:=a1 y h2; omega
  subst hxy;rw[AD a2 b2 (fun m=>?_)]
  constructor
  ·intro hm;rcases List.mem_cons.1 ((h m).1 (List.mem_cons_of_mem _ hm)) with h1|h1
   ·subst h1; have:=a1 m hm; omega
   ·exact h1
  ·intro hm;rcases List.mem_cons.1 ((h m).2 (List.mem_cons_of_mem _ hm)) with h1|h1
   ·subst h1; have:=b1 m hm; omega
   ·exact h1
def oY{l:List Int}(h:l.Pairwise (· <= ·))(hn:l.Nodup):l.Pairwise (· < ·):=by
 have:=List.Pairwise.and h hn;exact this.imp fun {a b} hab=>by have:=hab.1; have:=hab.2; omega
def OZ{l:List Int}(h:l.Nodup){i j:Nat}{a:Int}(hi:l[i]?=some a)(hj:l[j]?=some a):i=j:=by
 have hp:=List.pairwise_iff_getElem.1 h;obtain⟨h1,e1⟩:=List.getElem?_eq_some_iff.1 hi;obtain⟨h2,e2⟩:=List.getElem?_eq_some_iff.1 hj;rcases Nat.lt_trichotomy i j with hh|hh|hh
 ·exact absurd (e1.trans e2.symm) (hp i j h1 h2 hh)
 ·exact hh
 ·exact absurd (e2.trans e1.symm) (hp j i h2 h1 hh)
def Er{α:Type}{p:Nat}{d d':List α}{xs:List ae}(key:α->Int)(hlen:d.length=xs.length)(hkey:∀(i:Nat)(a:α)(x:ae),d[i]?=some a->xs[i]?=some x->key a=kE p x)(hnd:(xs.map (kE p)).Nodup)
  (hperm:d'.Perm d) (hs:d'.Pairwise fun a b=>key a<=key b) {q:Nat} {y:ae} (hy:(jo p xs)[q]?=some y):∃(i:Nat) (a:α),d'[q]?=some a/\d[i]?=some a/\xs[i]?=some y:=by
 have hmap:d.map key=xs.map (kE p):=by
  apply List.ext_getElem?;intro i;rw[List.getElem?_map,List.getElem?_map];rcases Nat.lt_or_ge i d.length with h|h
  ·have h':i<xs.length:=by omega
   rw[List.getElem?_eq_getElem h,List.getElem?_eq_getElem h'];simp only[Option.map_some];rw[hkey i _ _ (List.getElem?_eq_getElem h) (List.getElem?_eq_getElem h')]
  ·rw[List.getElem?_eq_none h,List.getElem?_eq_none (by omega)]; rfl
 have p1:((jo p xs).map (kE p)).Perm (xs.map (kE p)):=(lO p xs).map _;have p2:(d'.map key).Perm (xs.map (kE p)):=by rw[<-hmap]; exact hperm.map _
 have k1:((jo p xs).map (kE p)).Pairwise (· < ·):=oY (List.pairwise_map.2 (CD p xs)) (p1.nodup_iff.2 hnd)
 have k2:(d'.map key).Pairwise (· < ·):=oY (List.pairwise_map.2 hs) (p2.nodup_iff.2 hnd)
 have heq:=AD k1 k2 (fun m=>by rw[p1.mem_iff,p2.mem_iff])
 have h1:(d'.map key)[q]?=some (kE p y):=by rw[<-heq,List.getElem?_map,hy]; rfl
 rw[List.getElem?_map,Option.map_eq_some_iff] at h1;obtain⟨a,ha,hak⟩:=h1;obtain⟨i,hi⟩:=List.getElem?_of_mem (hperm.mem_iff.1 (List.mem_of_getElem? ha));have hil:=aq hi;obtain⟨j,hj⟩:=List.getElem?_of_mem ((lO p xs).mem_iff.1 (List.mem_of_getElem? hy));have hx:=List.getElem?_eq_getElem (show i<xs.length by omega)
 have hk:=hkey i a _ hi hx;have:i=j:=OZ hnd (i:=i) (j:=j) (a:=kE p y) (by rw[List.getElem?_map,hx]; simp only[Option.map_some]; rw[<-hk,hak]) (by rw[List.getElem?_map,hj]; rfl)
 subst this;exact⟨i,a,ha,hi,hj⟩
noncomputable def mi(sz p g:Nat):List ae->aj->Option (ae×aj)
 | [.slice _ xs,.func g' cs],M=>match xs,cs with
  | [],[]=>if g'=g then some (.tuple [],M) else none
  |_,_=>none
 | [.aW id ver sz' lo hi,.func g' cs],M=>match nth M id,cs with
  |some (.arr sz0 v xs),[]=>aQ (v=ver/\sz'=sz/\lo=0/\hi<=xs.length/\g'=g/\hi<=1099511627776/\(∀x,x∈xs.take hi->(LG p x).isSome=true)/\((xs.take hi).map (kE p)).Nodup)
    (some (.tuple [],dA M id (.arr sz0 v (jo p (xs.take hi)++xs.drop hi))))
  |_,_=>none
 |_,_=>none
end Go.Abs
namespace Go.Proofs.YtahkjijkflobhaaGreatDoor
open Go Go.Abs Go.Shelf Go.RowKit Go.Sort
def xf{sz p g f:Nat}(hp:p<sz)
  (h0:∀(A:Option Addr)(cap:Nat)(fv:Value)(w:World),Calls Tryz.prog f #[.slice A 0 cap,fv] w fun e w'=>e = .returned (.tuple #[])/\w'=w)
  (hS:∀ [Inhabited (EL sz p)] (blk cap:Nat) (d:Array (EL sz p)) (w:World),HoldsK EL.l sz w blk 0 d->blk<w.heap.size->d.size<4611686018427387904 ->
   Calls Tryz.prog f #[.slice (some ⟨blk,0,none⟩) d.size cap,.func (.func g) #[] #[]] w fun e w'=>e = .returned (.tuple #[])/\∃d' n os,PermIn 0 d.size d d'/\SortedIn (ltOf Us) 0 d.size d'/\w'=sortWorldK EL.l sz w blk 0 n d' os)
  {args:List ae} {M:aj} {x:ae×aj} (h:mi sz p g args M=some x):bn Tryz.prog f args M x:=by
 unfold mi at h;split at h
 ·rename_i tk xs g' cs;split at h
  ·split at h
   ·rename_i hg;subst hg;cases h;refine fS.call ?_;intro j w vs hr hG hl hv;obtain⟨l⟩:=vs
    match l,hl with
    | [u1,u2],_ =>
     obtain⟨A,cap,b,off,sz0,vs,e1,_⟩:=(hv 0 _ u1 rfl rfl).bw.bw;subst e1;refine(h0 A cap u2 w).mono ?_;rintro e w' ⟨rfl,rfl⟩;exact⟨_,j,rfl,hr,Ext.refl _ _ _,.tuple rfl fun i c v hi=>by cases hi⟩
   ·cases h
  ·cases h
 ·rename_i ix ver sz' lo hi g' cs;rw[cf] at h;split at h
  ·rename_i sz0 v0 xs hM;obtain⟨⟨rfl,rfl,rfl,hhi,rfl,hbig,hk,hnd⟩,h1⟩:=bd h;cases h1;refine fS.call ?_;intro j w vs hr hG hl hv;obtain⟨l⟩:=vs
   match l,hl with
   | [u1,u2],_ =>
    have ha:=hv 0 _ u1 rfl rfl;obtain⟨us,hu2,hul,_⟩:=(hv 1 _ u2 rfl rfl).jY;have hu0:us = #[]:=Array.eq_empty_of_size_eq_zero (by simpa using hul.symm)
    subst hu0;rw[hu2];rcases Nat.eq_zero_or_pos hi with h00|hpos
    ·subst h00;obtain⟨A,cap,e1⟩:=ha.rH;rw[e1];refine(h0 A cap _ w).mono ?_;rintro e w' ⟨rfl,rfl⟩
     have he:dA M ix (.arr sz0 v0 (jo p (xs.take 0)++xs.drop 0))=M:=by
      rw[cG];apply List.ext_getElem?;intro q
      by_cases e:ix=q
      ·subst e; rw[br (aq hM),hM]; rfl
      ·rw[aU e]
     rw[he];exact⟨_,j,rfl,hr,Ext.refl _ _ _,.tuple rfl fun i c v hi=>by cases hi⟩
    ·obtain⟨_,hid,_,gg⟩:=ha.gw;obtain⟨e1,_,_,⟨hx,_⟩|⟨b,cap,row,t0,l3,l4,l5,l6,l7⟩⟩:=(gg sz0 v0 xs hM).2 rfl
     ·subst hx; simp at hhi; omega
     subst e1;obtain⟨b',row0,t',k1,k2,k3,k4,k5⟩:=hr.rI hM l3;rw[l3] at k1; cases k1;rw[l6] at k2; injection k2 with k2; injection k2 with k2 k2'
     subst k2; subst k2';have hrow:hi*sz0<=row.size:=Nat.le_trans (Nat.mul_le_mul_right _ hhi) k3
     -- the elements
     have hidx:∀q k,q<hi->k<sz0->q*sz0+k<hi*sz0:=fun q k hq hk'=>by
      have:(q+1)*sz0<=hi*sz0:=Nat.mul_le_mul_right _ hq;rw[Nat.succ_mul] at this; omega
     have hel:∀q,q<hi->∃a:EL sz0 p,(∀k,k<sz0->a.l[k]?=row[q*sz0+k]?)/\∀x,xs[q]?=some x->a.n=kE p x:=by
      intro q hq;have hxq:xs[q]?=some (xs[q]'(by omega)):=List.getElem?_eq_getElem (by omega)
      have hwq:=k4 _ (List.mem_of_getElem? hxq)
      have hcell:∀k,k<sz0->∃u,row[q*sz0+k]?=some u/\∃c,(xs[q]'(by omega)).cells[k]?=some c/\cg w (fY j M w) c u:=fun k hk'=>by
       have hc:=List.getElem?_eq_getElem (l:=(xs[q]'(by omega)).cells) (i:=k) (by omega)
       obtain⟨u,h1,h2⟩:=k5 q _ k _ hxq hc;exact⟨u,h1,_,hc,h2⟩
      have hkx:=hk _ (List.mem_of_getElem? (show(xs.take hi)[q]?=_ by rw[List.getElem?_take_of_lt hq]; exact hxq))
      have hlen:((row.toList.drop (q*sz0)).take sz0).length=sz0:=by
       have:=hidx q (sz0-1) hq (by omega)
       simp; omega
      have hget:∀k,k<sz0->((row.toList.drop (q*sz0)).take sz0)[k]?=row[q*sz0+k]?:=fun k hk'=>by
       rw[List.getElem?_take_of_lt hk',List.getElem?_drop]; simp
      obtain⟨u,hu1,c,hc1,hc2⟩:=hcell p hp
      obtain⟨n,hn⟩:∃n,c = .int .i64 n:=by
       unfold LG at hkx;rw[hc1] at hkx;split at hkx
       ·rename_i hh; injection hh with hh; exact⟨_,hh⟩
       ·cases hkx
      subst hn;have hu:=(cC.plain (j:=j) (M:=M) hc2).cq;subst hu;refine⟨⟨(row.toList.drop (q*sz0)).take sz0,hlen,fun v hv=>?_,n,by rw[hget p hp]; exact hu1⟩,hget,fun x hx=>?_⟩
      ·obtain⟨k,hk'⟩:=List.getElem?_of_mem hv;have hkl:k<sz0:=by rw[<-hlen]; exact aq hk'
       obtain⟨u,h1,c,_,h3⟩:=hcell k hkl;rw[hget k hkl,h1] at hk'; cases hk';exact h3.one
      ·rw[hxq] at hx; cases hx;simp[kE,LG,hc1]
     obtain⟨d,hdl,hd⟩:∃d:List (EL sz0 p),d.length=hi/\∀q a,d[q]?=some a->(∀k,k<sz0->a.l[k]?=row[q*sz0+k]?)/\∀x,xs[q]?=some x->a.n=kE p x:=by
      refine⟨(List.finRange hi).map fun q=>(hel q.1 q.2).choose,by simp,fun q a ha=>?_⟩
      rw[List.getElem?_map,Option.map_eq_some_iff] at ha;obtain⟨i,hi',rfl⟩:=ha;have hq:q<hi:=by have:=aq hi'; simpa using this
      have:i=⟨q,hq⟩:=by
       have h1:=(List.getElem?_eq_some_iff.1 hi').2;rw[<-h1]; simp
      subst this;exact(hel q hq).choose_spec
     haveI:Inhabited (EL sz0 p):=⟨(hel 0 hpos).choose⟩
     have hget! : ∀q,q<hi->d[q]?=some d.toArray[q]! := fun q hq=>by
      rw[List.getElem?_eq_getElem (by omega),getElem!_pos d.toArray q (by simpa[hdl] using hq)]
      simp
     have hfl:∀t,t<hi*sz0->row[t]?=some (d.toArray[t / sz0]!.l[t % sz0]!):=fun t ht=>by
      have hq:t / sz0<hi:=(Nat.div_lt_iff_lt_mul (by omega)).2 ht
      have hm:t % sz0<sz0:=Nat.mod_lt _ (by omega)
      have h1:=(hd _ _ (hget! _ hq)).1 _ hm;rw[Nat.div_add_mod'] at h1;rw[<-h1];have h2:t % sz0<d.toArray[t / sz0]!.l.length:=by rw[(d.toArray[t / sz0]!).hl]; exact hm
      rw[List.getElem?_eq_getElem h2,getElem!_pos (d.toArray[t / sz0]!.l) (t % sz0) h2]
     have hH:HoldsK EL.l sz0 w b 0 d.toArray:=fun t ht=>by
      simp only[size_flatK,List.size_toArray,hdl] at ht;rw[get_flatK _ _ _ _ (by simpa[hdl] using ht)]
      refine⟨?_,?_⟩
      ·simp only[Nat.zero_add,World.cell?,l6,id];exact hfl t ht
      ·simp[World.frozen?,l6]
     rw[l4,Nat.sub_zero,Nat.zero_mul];have hcall:=hS b cap d.toArray w hH (lt_of_block l6) (by simp[hdl]; omega)
     simp only[List.size_toArray,hdl] at hcall;refine hcall.mono ?_;rintro e1 w' ⟨rfl,d',n,os,hperm,hsort,rfl⟩;obtain⟨hs1,_,hs3⟩:=hperm;simp only[List.size_toArray,hdl] at hs1
     have hperm':d'.toList.Perm d:=by
      have e1:(d'.extract 0 hi).toList=d'.toList:=by rw[<-hs1]; simp
      have e2:(d.toArray.extract 0 hi).toList=d:=by rw[<-hdl]; simp
      rw[e1,e2] at hs3; exact hs3
     have hpw:d'.toList.Pairwise fun a b=>a.n<=b.n:=by
      rw[List.pairwise_iff_getElem];intro i k hi1 hk1 hik;have hk2:k<d'.size:=by simpa using hk1
      have:=hsort i k (Nat.zero_le _) hik (by omega)
      rw[ltE,getElem!_pos d' k hk2,getElem!_pos d' i (by omega)] at this
      simp at this ⊢;omega
     have hmatch:∀(q:Nat)(y:ae),(jo p (xs.take hi))[q]?=some y->∃(i:Nat) (a:EL sz0 p),d'.toList[q]?=some a/\d[i]?=some a/\(xs.take hi)[i]?=some y:=fun q y hy =>
      Er (fun a:EL sz0 p=>a.n) (by simp[hdl]; omega) (fun i a x h1 h2=>(hd i a h1).2 x (by
       have hlt:i<hi:=by have:=aq h2; simp at this; omega
       rwa[List.getElem?_take_of_lt hlt] at h2)) hnd hperm' hpw hy
     -- the world behind
     have hbk:(sortWorldK EL.l sz0 w b 0 n d' os).heap[b]?=some (.cells (Go.Sort.putCells id 0 (flatK EL.l sz0 d') row) t0 (0,0)):=by
      have hlt:=lt_of_block l6
      show((w.heap.modify b (onCells (Go.Sort.putCells id 0 (flatK EL.l sz0 d'))))++os)[b]?=_
      rw[Array.getElem?_append_left (by simpa using hlt),Array.getElem?_modify,if_pos rfl,l6]
      rfl
     have hq:Quiet w (sortWorldK EL.l sz0 w b 0 n d' os):=⟨by show w.heap.size<=((w.heap.modify b _)++os).size; simp,rfl,rfl,rfl⟩
     have hoth:∀b',b'≠b->b'<w.heap.size->(sortWorldK EL.l sz0 w b 0 n d' os).heap[b']?=w.heap[b']?:=fun b' hne hlt=>by
      show((w.heap.modify b _)++os)[b']?=_
      rw[Array.getElem?_append_left (by simpa using hlt),Array.getElem?_modify,if_neg (Ne.symm hne)]
     have hsl:(jo p (xs.take hi)).length=hi:=by rw[(lO p _).length_eq]; simp; omega
     have hwd:wid (jo p (xs.take hi)++xs.drop hi) sz0:=fM (fun x hx=>k4 x (List.mem_of_mem_take ((lO p _).mem_iff.1 hx))) (nv k4)
     have hcells:∀t,t<hi*sz0->(Go.Sort.putCells id 0 (flatK EL.l sz0 d') row)[t]?=some (d'[t / sz0]!.l[t % sz0]!):=fun t ht=>by
      unfold Go.Sort.putCells;rw[Array.getElem?_mapIdx,Array.getElem?_eq_getElem (show t<row.size by omega)]
      simp only[Option.map_some,size_flatK,hs1,Nat.zero_add,Nat.sub_zero,Nat.zero_le,true_and,ht,if_true,id];rw[get_flatK _ _ _ _ (by rw[hs1]; exact ht)]
     have hrl:RL w (fY j M w) (dR (jo p (xs.take hi)++xs.drop hi)) ((Go.Sort.putCells id 0 (flatK EL.l sz0 d') row).toList.take (xs.length*sz0)):=by
      have hpsz:(Go.Sort.putCells id 0 (flatK EL.l sz0 d') row).size=row.size:=by simp[Go.Sort.putCells]
      refine pv (b:=b) (by rw[hpsz]; simpa[hsl,Nat.add_sub_cancel' hhi] using k3) hwd (fun q x k c hx hkc=>?_) |> fun h=>by
       have e:(jo p (xs.take hi)++xs.drop hi).length=xs.length:=by simp[hsl]; omega
       rwa[e] at h
      have hkl:k<sz0:=by rw[<-hwd x (List.mem_of_getElem? hx)]; exact aq hkc
      rcases Nat.lt_or_ge q hi with hq'|hq'
      ·rw[List.getElem?_append_left (by rw[hsl]; exact hq')] at hx
       obtain⟨i,a,h1,h2,h3⟩:=hmatch q x hx;have hi':i<hi:=by have:=aq h3; simp at this; omega
       rw[List.getElem?_take_of_lt hi'] at h3;obtain⟨u,g1,g2⟩:=k5 i x k c h3 hkc;refine⟨u,?_,g2⟩;rw[hcells _ (hidx q k hq' hkl)];have hdv:(q*sz0+k) / sz0=q:=by rw[Nat.mul_comm,Nat.mul_add_div (by omega),Nat.div_eq_of_lt hkl]; rfl
       have hmd:(q*sz0+k) % sz0=k:=by rw[Nat.mul_comm,Nat.mul_add_mod,Nat.mod_eq_of_lt hkl]
       rw[hdv,hmd]
       have ha':d'[q]! = a:=by
        have hq2:q<d'.size:=by omega
        rw[getElem!_pos d' q hq2];simpa[Array.getElem?_eq_getElem hq2] using h1
       rw[ha',<-g1,<-(hd i a h2).1 k hkl];have:k<a.l.length:=by rw[a.hl]; exact hkl
       rw[List.getElem?_eq_getElem this,getElem!_pos a.l k this]
      ·rw[List.getElem?_append_right (by rw[hsl]; exact hq'),hsl,List.getElem?_drop,Nat.add_sub_cancel' hq'] at hx
       obtain⟨u,g1,g2⟩:=k5 q x k c hx hkc;refine⟨u,?_,g2⟩;unfold Go.Sort.putCells;have hge:hi*sz0<=q*sz0+k:=Nat.le_trans (Nat.mul_le_mul_right _ hq') (Nat.le_add_right _ _);rw[Array.getElem?_mapIdx,g1];simp only[Option.map_some,size_flatK,hs1,Nat.zero_add];rw[if_neg (by omega)]
     rw[cG]
     have hput:=pt (ver':=v0) (xs':=jo p (xs.take hi)++xs.drop hi) hr hM l3 hq hoth l6 hbk (by simp[Go.Sort.putCells]) (Nat.le_refl _) (fun _=>by simp[hsl]; omega) hwd hrl (fun t ht=>by
      rw[List.getElem?_take_of_lt (by simp at ht; omega)]; simp)
     exact⟨_,j,rfl,hput.1,hput.2,.tuple rfl fun i c v hi=>by cases hi⟩
  ·cases h
 ·cases h
def Qc{args:List ae}{M:aj}{x:ae×aj}(h:mi 3 2 217 args M=some x):bn Tryz.prog 216 args M x :=
 xf (by omega) (fun A cap fv w=>AnyF.slices_SortFunc_none Tryz.F4 A cap fv w)
  (fun blk cap d w hH hb hs=>(AnyQ.slices_SortFunc Tryz.F4 3 Tryz.isAgg95 Tryz.sizeOf95 EL.l (fun x=>x.hl) (fun x=>x.h1) Us ahA 217 #[] blk 0 cap d w (enters_of Tryz.func217 (by kernel_rfl) rfl) (Dt blk 0 d.size w) hH hb hs)) h
def Qb{args:List ae}{M:aj}{x:ae×aj}(h:mi 6 0 159 args M=some x):bn Tryz.prog 158 args M x :=
 xf (by omega) (fun A cap fv w=>AnyF.slices_SortFunc_none Tryz.CE A cap fv w)
  (fun blk cap d w hH hb hs=>(AnyQ.slices_SortFunc Tryz.CE 6 Tryz.isAgg54 Tryz.sizeOf54 EL.l (fun x=>x.hl) (fun x=>x.h1) Us ahA 159 #[] blk 0 cap d w (enters_of Tryz.func159 (by kernel_rfl) rfl) (Ds blk 0 d.size w) hH hb hs)) h
end Go.Proofs.YtahkjijkflobhaaGreatDoor
namespace Go.Proofs.YtahkjijkflobhaaGreatDoor
open Go Go.Abs
noncomputable def j8(sz:Nat)(args:List ae)(M:aj):Option (ae×aj):=aG (eL sz args M) fun x=>some (x.1.ot x.2,kC x.2 x.1.ids)
def ya{P:Program}{f:Nat}{args:List ae}{M:aj}{x:ae×aj}(h:bn P f args M x)(hx:x.1.dJ=false):bn P f args M (x.1.ot x.2,kC x.2 x.1.ids):=by
 intro j w vs h1 h2 h3 h4;refine(h j w vs h1 h2 h3 h4).mono ?_;intro e w' hc;obtain⟨v,rfl,j',g1,g2,g3⟩:=hc.ret hx;obtain⟨f1,f2,f3,f4⟩:=vq x.1.ids g1;exact .inl ⟨v,rfl,j',f2,g2.trans f1,g3.ot g1 f1 f2 f3 f4⟩
def Ce{sz:Nat}{args:List ae}{M:aj}{x:ae×aj}(h:eL sz args M=some x):x.1.dJ=false:=by
 unfold eL at h;split at h
 ·split at h
  ·obtain⟨_,h⟩:=bd h;cases h; rfl
  ·cases h
 ·cases h
def vX{P:Program}{f sz:Nat}(hd:∀ {args:List ae} {M:aj} {x:ae×aj},eL sz args M=some x->bn P f args M x)
  {args:List ae} {M:aj} {x:ae×aj} (h:j8 sz args M=some x):bn P f args M x:=by
 obtain⟨y,h1,h2⟩:=az h;cases h2;exact ya (hd h1) (Ce h1)
def Dy{args:List ae}{M:aj}{x:ae×aj}(h:j8 3 args M=some x):bn Tryz.prog 223 args M x:=vX GK h
def Dz{args:List ae}{M:aj}{x:ae×aj}(h:j8 3 args M=some x):bn Tryz.prog 228 args M x:=vX GL h
section
open Go.RowKit
set_option maxHeartbeats 1000000 in
set_option maxRecDepth 100000 in
def Dv(a b:ByteArray)(w:World) :
  Calls Tryz.prog 295 #[.string a,.string b] w fun e w'=>e = .returned (.int .i64 (Lib.compareBytes a.data.toList b.data.toList))/\w'=w:=by
 go_enter Tryz.func295,Tryz.ntmps295
 go_wp2
 rw[run_callFunc_extern Tryz.func319 (by kernel_rfl) (by kernel_rfl) (by kernel_rfl) (e:=Extern.BytealgCompare.compare) (by kernel_rfl),Lib.run_compareString]
 simp only[Result.andThen];rw[Oper.upon_value]
 go_wp2
 go_ret
 exact⟨rfl,rfl⟩
noncomputable def su:List ae->aj->Option (ae×aj)
 | [.str a,.str b],M=>some (.int .i64 (Lib.compareBytes a b),M)
 |_,_=>none
def AW{args:List ae}{M:aj}{x:ae×aj}(h:su args M=some x):bn Tryz.prog 295 args M x:=by
 unfold su at h;split at h
 ·rename_i a b;cases h;refine fS.call ?_;intro j w vs hr hG hl hv;obtain⟨l⟩:=vs
  match l,hl with
  | [u1,u2],_ =>
   have h1:=(hv 0 _ u1 rfl rfl).eb;have h2:=(hv 1 _ u2 rfl rfl).eb;subst h1; subst h2;refine(Dv (bs a) (bs b) w).mono ?_;rintro e w' ⟨rfl,rfl⟩;exact⟨_,j,rfl,hr,.refl _ _ _,.plain (.int _ _)⟩
 ·cases h
end
end Go.Proofs.YtahkjijkflobhaaGreatDoor
namespace Go.Proofs
open Go.Shelf
def Tryz.uO:Go.Shelf.Ren:=⟨fun|156=>289|165=>314|166=>315|169=>316|240=>328|241=>329|276=>333|277=>334|n=>n,fun|31=>43|9=>9|3=>3|4=>4|0=>0|20=>20|72=>342|76=>343|70=>340|37=>23|75=>70|127=>353|164=>114|5=>5|80=>345|n=>n,fun|n=>n⟩
def Tryz.Fy:Go.Proofs.Lays.n156 Tryz.prog Tryz.uO:={
 mixed:=by kernel_rfl
 f156:=Tryz.func289.trans (congrArg some (by kernel_rfl))
 f165:=Tryz.func314.trans (congrArg some (by kernel_rfl))
 f166:=Tryz.func315.trans (congrArg some (by kernel_rfl))
 f169:=Tryz.func316.trans (congrArg some (by kernel_rfl))
 f240:=Tryz.func328.trans (congrArg some (by kernel_rfl))
 f241:=Tryz.func329.trans (congrArg some (by kernel_rfl))
 f276:=Tryz.func333.trans (congrArg some (by kernel_rfl))
 f277:=Tryz.func334.trans (congrArg some (by kernel_rfl))
 t0:=Tryz.underlying0
 a0:=Tryz.isAgg0
 z0:=Tryz.sizeOf0
 v0:=Tryz.zeroValue0
 t3:=Tryz.underlying3
 a3:=Tryz.isAgg3
 z3:=Tryz.sizeOf3
 v3:=Tryz.zeroValue3
 t4:=Tryz.underlying4
 a4:=Tryz.isAgg4
 z4:=Tryz.sizeOf4
 v4:=Tryz.zeroValue4
 t9:=Tryz.underlying9
 a9:=Tryz.isAgg9
 z9:=Tryz.sizeOf9
 v9:=Tryz.zeroValue9
 t20:=Tryz.underlying20
 a20:=Tryz.isAgg20
 z20:=Tryz.sizeOf20
 v20:=Tryz.zeroValue20
 t31:=Tryz.underlying43
 a31:=Tryz.isAgg43
 z31:=Tryz.sizeOf43
 v31:=Tryz.zeroValue43
 t37:=Tryz.underlying23
 a37:=Tryz.isAgg23
 z37:=Tryz.sizeOf23
 v37:=Tryz.zeroValue23
 t70:=Tryz.underlying340
 a70:=Tryz.isAgg340
 z70:=Tryz.sizeOf340
 v70:=Tryz.zeroValue340
 t72:=Tryz.underlying342
 a72:=Tryz.isAgg342
 z72:=Tryz.sizeOf342
 v72:=Tryz.zeroValue342
 t75:=Tryz.underlying70
 a75:=Tryz.isAgg70
 z75:=Tryz.sizeOf70
 v75:=Tryz.zeroValue70
 t76:=Tryz.underlying343
 a76:=Tryz.isAgg343
 z76:=Tryz.sizeOf343
 v76:=Tryz.zeroValue343
 t127:=Tryz.underlying353
 a127:=Tryz.isAgg353
 z127:=Tryz.sizeOf353
 v127:=Tryz.zeroValue353
 t164:=Tryz.underlying114
 a164:=Tryz.isAgg114
 z164:=Tryz.sizeOf114
 v164:=Tryz.zeroValue114 }
def Tryz.lZ:Builder.Extra Tryz.prog Tryz.uO:={
 sizeBuilder:=by kernel_rfl
 liesBuilder:=by kernel_rfl
 t5:=Tryz.underlying5
 a5:=Tryz.isAgg5
 z5:=Tryz.sizeOf5
 v5:=Tryz.zeroValue5
 infoByte:=by kernel_rfl
 cellsByte:=by kernel_rfl
 sizeByte:=by kernel_rfl
 neB5:=by decide }
open Go.RowKit in
def Tryz.strings_Join_none(a:Option Addr)(c:Nat)(sep:ByteArray)(w:World) :
  Calls Tryz.prog 289 #[.slice a 0 c,.string sep] w fun e w'=>e = .returned (.string ⟨#[]⟩)/\w'=w:=Any.strings_Join_none Tryz.Fy Tryz.lZ a c sep w
open Go.RowKit in
def Tryz.strings_Join(bk o c:Nat)(xs:List ByteArray)(sep:ByteArray)(w:World)(hcells:∀(j:Nat) x,xs[j]?=some x->w.cell? ⟨bk,o+j,none⟩=some (.string x))(hbk:bk<w.heap.size)(hN:xs.length<=140737488355328)(hcap:xs.length<=c)(hlen:(Lib.join (xs.map (·.data.toList)) sep.data.toList).length<=140737488355328) :
  Calls Tryz.prog 289 #[.slice (some ⟨bk,o,none⟩) xs.length c,.string sep] w fun e w'=>e = .returned (.string ⟨(Lib.join (xs.map (·.data.toList)) sep.data.toList).toArray⟩)/\Below w.heap.size w w':=Any.strings_Join Tryz.Fy Tryz.lZ bk o c xs sep w hcells hbk hN hcap hlen
def Tryz.BW:Go.Shelf.Ren:=⟨fun|137=>274|217=>308|266=>326|n=>n,fun|9=>9|5=>5|3=>3|n=>n,fun|n=>n⟩
def Tryz.RQ:Go.Proofs.Lays.n137 Tryz.prog Tryz.BW:={
 mixed:=by kernel_rfl
 f137:=Tryz.func274.trans (congrArg some (by kernel_rfl))
 f217:=Tryz.func308.trans (congrArg some (by kernel_rfl))
 f266:=Tryz.func326.trans (congrArg some (by kernel_rfl))
 t3:=Tryz.underlying3
 a3:=Tryz.isAgg3
 z3:=Tryz.sizeOf3
 v3:=Tryz.zeroValue3
 t5:=Tryz.underlying5
 a5:=Tryz.isAgg5
 z5:=Tryz.sizeOf5
 v5:=Tryz.zeroValue5
 t9:=Tryz.underlying9
 a9:=Tryz.isAgg9
 z9:=Tryz.sizeOf9
 v9:=Tryz.zeroValue9 }
open Go.RowKit in
def Tryz.strings_IndexByte(s:ByteArray)(c:Int)(w:World) :
  Calls Tryz.prog 274 #[.string s,.int .u8 c] w fun e w'=>e = .returned (.int .i64 (Lib.indexByte s.data.toList c.toNat.toUInt8))/\w'=w:=Any.strings_IndexByte Tryz.RQ s c w
end Go.Proofs
namespace Go.Proofs.YtahkjijkflobhaaGreatDoor
open Go Go.Abs
open Go.RowKit
def uY{P:Program}{f:Nat}{args:List ae}{M:aj}{r:ae}
  (h:∀(j:J)(w:World)(vs:Array Value),Rel j M w->ke j M w->args.length=vs.size->(∀(i:Nat)(c:ae)(v:Value),args[i]?=some c->vs[i]?=some v->cC j M w c v) ->
   Calls P f vs w fun e w'=>∃v,e = .returned v/\Below w.heap.size w w'/\cC j M w' r v):bn P f args M (r,M):=by
 refine fS.call ?_;intro j w vs hr hG hl hv;refine(h j w vs hr hG hl hv).mono ?_;rintro e w' ⟨v,rfl,hb,hrep⟩;exact⟨v,j,rfl,hr.grow hb.size hb.os hb.tape hb.output hb.block,Ext.grow hb.size hb.os hb.tape hb.output hb.block,hrep⟩
def rp:List ae->aj->Option (ae×aj)
 | [.str s,.int k c],M=>if k = .u8 then some (.int .i64 (Lib.indexByte s c.toNat.toUInt8),M) else none
 |_,_=>none
def DV{args:List ae}{M:aj}{x:ae×aj}(h:rp args M=some x):bn Tryz.prog 274 args M x:=by
 unfold rp at h;split at h
 ·rename_i s k c;split at h
  ·rename_i hk;subst hk;cases h;refine uY fun j w vs hr hG hl hv=>?_
   obtain⟨l⟩:=vs
   match l,hl with
   | [u1,u2],_ =>
    obtain rfl:=(hv 0 _ u1 rfl rfl).eb;obtain rfl:=(hv 1 _ u2 rfl rfl).cq;refine(Tryz.strings_IndexByte (bs s) c w).mono ?_;rintro e w' ⟨rfl,rfl⟩;exact⟨_,rfl,Below.refl _ _,by simp[bs]; exact .plain (.int _ _)⟩
  ·cases h
 ·cases h
def uo:List ae->Option (List (List UInt8))
 | []=>some []
 | .str s::r=>aG (uo r) fun l=>some (s::l)
 |_=>none
def yQ:∀ {xs:List ae} {l:List (List UInt8)},uo xs=some l->xs=l.map .str
 | [],l,h=>by cases h; rfl
 |x::r,l,h=>by
  unfold uo at h;split at h
  ·rename_i e; cases e
  ·rename_i s r' e;injection e with e1 e2; subst e1; subst e2
   obtain⟨l',h1,h2⟩:=az h;cases h2;rw[yQ h1]; rfl
  ·cases h
def Cf:List ae->aj->Option (ae×aj)
 | [.slice _ xs,.str sep],M=>aG (uo xs) fun l=>if l.length<=140737488355328/\(Lib.join l sep).length<=140737488355328 then some (.str (Lib.join l sep),M) else none
 |_,_=>none
def adW{args:List ae}{M:aj}{x:ae×aj}(h:Cf args M=some x):bn Tryz.prog 289 args M x:=by
 unfold Cf at h;split at h
 ·rename_i tk xs sep;obtain⟨l,hl0,h⟩:=az h;have hxs:=yQ hl0;split at h
  ·rename_i hs;cases h;refine uY fun j w vs hr hG hl hv=>?_
   obtain⟨us⟩:=vs
   match us,hl with
   | [u1,u2],_ =>
    obtain⟨A,cap,b,off,sz,vs,e1,e2,e3,e4,e5,e6⟩:=(hv 0 _ u1 rfl rfl).bw.bw;obtain rfl:=(hv 1 _ u2 rfl rfl).eb;subst e1;subst hxs;cases l with
    |nil =>
     refine(Tryz.strings_Join_none A cap (bs sep) w).mono ?_;rintro e w' ⟨rfl,rfl⟩;exact⟨_,rfl,Below.refl _ _,.plain (.str _)⟩
    |cons s0 l =>
     obtain rfl:=e3 (by simp)
     have hsz:sz=1:=(e4 (.str s0) (by simp)).symm
     subst hsz
     have cell:∀(q:Nat)(s:List UInt8),(s0::l)[q]?=some s->w.cell? ⟨b,off+q,none⟩=some (.string (bs s)):=fun q s hq=>by
      have hq':((s0::l).map ae.str)[q]?=some (.str s):=by rw[List.getElem?_map,hq]; rfl
      have k1:=e5 q _ 0 (.str s) hq' rfl;have k2:=(cC.plain (j:=j) (M:=M) (e6 q _ 0 (.str s) hq' rfl)).eb;simp only[Nat.mul_one,Nat.add_zero] at k1 k2;rw[k1.1,k2]
     have hmap:((s0::l).map bs).map (·.data.toList)=s0::l:=by
      rw[List.map_map]; conv=>rhs; rw[<-List.map_id (s0::l)]
      exact List.map_congr_left fun s _=>by simp[bs]
     have hd:(bs sep).data.toList=sep:=by simp[bs]
     have hb:b<w.heap.size:=by
      have:=cell 0 s0 rfl;rcases Nat.lt_or_ge b w.heap.size with h|h
      ·exact h
      ·simp[World.cell?,Array.getElem?_eq_none h] at this
     have hJ:=Tryz.strings_Join b off cap ((s0::l).map bs) (bs sep) w (fun q x hq=>by
      rw[List.getElem?_map,Option.map_eq_some_iff] at hq;obtain⟨s,hs,rfl⟩:=hq;exact cell q s hs) hb (by simpa using hs.1) (by simpa using e2) (by rw[hmap,hd]; exact hs.2)
     rw[hmap,hd] at hJ;have:((s0::l).map bs).length=((s0::l).map ae.str).length:=by simp
     rw[this] at hJ;refine hJ.mono ?_;rintro e w' ⟨rfl,hb⟩;exact⟨_,rfl,hb,.plain (.str _)⟩
  ·cases h
 ·cases h
end Go.Proofs.YtahkjijkflobhaaGreatDoor
namespace Go.Abs
open Go
def TG0:(∀B M b,ae.dQ B M (.bool b)=(.bool b)/\ae.eH B M (.bool b)=(.bool b)/\ae.eJ B M (.bool b)=(.bool b)/\ae.gx B M (.bool b)=(.bool b)/\ae.dY B M (.bool b)=(.bool b)/\ae.eh B M (.bool b)=(.bool b)/\ae.fC B M (.bool b)=(.bool b)) /\
  (∀b,ae.shut (.bool b)=(.bool b)/\ae.cu (.bool b)=(.bool b)/\ae.dJ (.bool b)=false/\ae.cells? (.bool b)=some [(.bool b)]/\ae.dp (.bool b)=true/\ae.plainCell (.bool b)=true/\ae.plain (.bool b)=true/\ae.cells (.bool b)=[(.bool b)]/\ae.cX (.bool b)=[]/\ae.fP (.bool b)=[]/\ae.ids (.bool b)=[]) /\
  (∀M b,ae.gQ M (.bool b)=(.bool b)/\ae.ot M (.bool b)=(.bool b)) /\
  (∀B M k n,ae.dQ B M (.int k n)=(.int k n)/\ae.eH B M (.int k n)=(.int k n)/\ae.eJ B M (.int k n)=(.int k n)/\ae.gx B M (.int k n)=(.int k n)/\ae.dY B M (.int k n)=(.int k n)/\ae.eh B M (.int k n)=(.int k n)/\ae.fC B M (.int k n)=(.int k n)) /\
  (∀k n,ae.shut (.int k n)=(.int k n)/\ae.cu (.int k n)=(.int k n)/\ae.dJ (.int k n)=false/\ae.cells? (.int k n)=some [(.int k n)]/\ae.dp (.int k n)=true/\ae.plainCell (.int k n)=true/\ae.plain (.int k n)=true/\ae.cells (.int k n)=[(.int k n)]/\ae.cX (.int k n)=[]/\ae.fP (.int k n)=[]/\ae.ids (.int k n)=[]) /\
  (∀M k n,ae.gQ M (.int k n)=(.int k n)/\ae.ot M (.int k n)=(.int k n)) /\
  (∀B M s,ae.dQ B M (.str s)=(.str s)/\ae.eH B M (.str s)=(.str s)/\ae.eJ B M (.str s)=(.str s)/\ae.gx B M (.str s)=(.str s)/\ae.dY B M (.str s)=(.str s)/\ae.eh B M (.str s)=(.str s)/\ae.fC B M (.str s)=(.str s)) /\
  (∀s,ae.shut (.str s)=(.str s)/\ae.cu (.str s)=(.str s)/\ae.dJ (.str s)=false/\ae.cells? (.str s)=some [(.str s)]/\ae.dp (.str s)=true/\ae.plainCell (.str s)=true/\ae.plain (.str s)=true/\ae.cells (.str s)=[(.str s)]/\ae.cX (.str s)=[]/\ae.fP (.str s)=[]/\ae.ids (.str s)=[]):=by
 repeat' (first|rfl|intro _|apply And.intro)
def TG1:(∀M s,ae.gQ M (.str s)=(.str s)/\ae.ot M (.str s)=(.str s)) /\
  (∀B M id off,ae.dQ B M (.ptr id off)=(if id<B then (.ptr id off) else .any)/\ae.eH B M (.ptr id off)=(if id<B then (.ptr id off) else .any)/\ae.eJ B M (.ptr id off)=(if id<B then (.ptr id off) else .any)/\ae.gx B M (.ptr id off)=(if id<B then (.ptr id off) else .any)/\ae.dY B M (.ptr id off)=(if id<B then (.ptr id off) else .any)/\ae.eh B M (.ptr id off)=(if id<B then (.ptr id off) else .any)/\ae.fC B M (.ptr id off)=(if id<B then (.ptr id off) else .any)) /\
  (∀id off,ae.shut (.ptr id off)=(.ptr id off)/\ae.cu (.ptr id off)=(.ptr id off)/\ae.dJ (.ptr id off)=false/\ae.cells? (.ptr id off)=some [(.ptr id off)]/\ae.dp (.ptr id off)=true/\ae.plainCell (.ptr id off)=false/\ae.plain (.ptr id off)=false/\ae.cells (.ptr id off)=[(.ptr id off)]/\ae.cX (.ptr id off)=[id]/\ae.fP (.ptr id off)=[id]/\ae.ids (.ptr id off)=[id]) /\
  (∀M id off,ae.gQ M (.ptr id off)=(.ptr id off)/\ae.ot M (.ptr id off)=(.ptr id off)) /\
  (∀B M cs,ae.dQ B M (.dq cs)=(.dq cs)/\ae.eH B M (.dq cs)=(.dq cs)/\ae.eJ B M (.dq cs)=(.dq cs)/\ae.gx B M (.dq cs)=(.dq cs)/\ae.dY B M (.dq cs)=(.dq cs)/\ae.eh B M (.dq cs)=(.dq cs)/\ae.fC B M (.dq cs)=(.dq cs)) /\
  (∀cs,ae.shut (.dq cs)=(.dq cs)/\ae.cu (.dq cs)=(.dq cs)/\ae.dJ (.dq cs)=false/\ae.cells? (.dq cs)=some [(.dq cs)]/\ae.dp (.dq cs)=true/\ae.plainCell (.dq cs)=false/\ae.plain (.dq cs)=false/\ae.cells (.dq cs)=[(.dq cs)]/\ae.cX (.dq cs)=[]/\ae.fP (.dq cs)=[]/\ae.ids (.dq cs)=[]) /\
  (∀M cs,ae.gQ M (.dq cs)=(.dq cs)/\ae.ot M (.dq cs)=(.dq cs)) /\
  (∀B M f cs,ae.dQ B M (.func f cs) = .any/\ae.eH B M (.func f cs) = .func f (cs.map (ae.dQ B M))/\ae.eJ B M (.func f cs) = .func f (cs.map (ae.dQ B M))/\ae.gx B M (.func f cs) = .func f (cs.map (ae.dQ B M))/\ae.dY B M (.func f cs) = .func f (cs.map (ae.dQ B M))/\ae.eh B M (.func f cs) = .func f (cs.map (ae.dQ B M))/\ae.fC B M (.func f cs) = .func f (cs.map (ae.dQ B M))):=by
 repeat' (first|rfl|intro _|apply And.intro)
def TG2:(∀f cs,ae.shut (.func f cs)=(.func f cs)/\ae.cu (.func f cs)=(.func f cs)/\ae.dJ (.func f cs)=false/\ae.cells? (.func f cs)=some [(.func f cs)]/\ae.dp (.func f cs)=true/\ae.plainCell (.func f cs)=false/\ae.plain (.func f cs)=false/\ae.cells (.func f cs)=[(.func f cs)]/\ae.cX (.func f cs)=[]/\ae.fP (.func f cs)=cs.flatMap ae.cX/\ae.ids (.func f cs)=cs.flatMap ae.cX) /\
  (∀M f cs,ae.gQ M (.func f cs)=(.func f cs)/\ae.ot M (.func f cs)=(.func f cs)) /\
  (∀B M id,ae.dQ B M (.cU id)=(if id<B then (.cU id) else .any)/\ae.eH B M (.cU id)=(if id<B then (.cU id) else .any)/\ae.eJ B M (.cU id)=(if id<B then (.cU id) else .any)/\ae.gx B M (.cU id)=(if id<B then (.cU id) else .any)/\ae.dY B M (.cU id)=(if id<B then .cU id else match M[id]? with|some (.map ks vs)=>if vs.all ae.plain&&ks.all ae.plainCell then .dI ks vs else .any|_ => .any)/\ae.eh B M (.cU id)=(if id<B then .cU id else match M[id]? with|some (.map ks vs)=>if vs.all ae.plain&&ks.all ae.plainCell then .dI ks vs else .any|_ => .any)/\ae.fC B M (.cU id)=(if id<B then .cU id else match M[id]? with|some (.map ks vs)=>if vs.all ae.plain&&ks.all ae.plainCell then .dI ks vs else .any|_ => .any)) /\
  (∀id,ae.shut (.cU id)=(.cU id)/\ae.cu (.cU id)=(.cU id)/\ae.dJ (.cU id)=false/\ae.cells? (.cU id)=some [(.cU id)]/\ae.dp (.cU id)=true/\ae.plainCell (.cU id)=false/\ae.plain (.cU id)=false/\ae.cells (.cU id)=[(.cU id)]/\ae.cX (.cU id)=[id]/\ae.fP (.cU id)=[id]/\ae.ids (.cU id)=[id]) /\
  (∀M id,ae.gQ M (.cU id)=(.cU id)/\ae.ot M (.cU id)=(.cU id)) /\
  (∀B M id,ae.dQ B M (.dD id)=(if id<B then (.dD id) else .any)/\ae.eH B M (.dD id)=(if id<B then (.dD id) else .any)/\ae.eJ B M (.dD id)=(if id<B then (.dD id) else .any)/\ae.gx B M (.dD id)=(if id<B then (.dD id) else .any)/\ae.dY B M (.dD id)=(if id<B then (.dD id) else .any)/\ae.eh B M (.dD id)=(if id<B then (.dD id) else .any)/\ae.fC B M (.dD id)=(if id<B then (.dD id) else .any)) /\
  (∀id,ae.shut (.dD id)=(.dD id)/\ae.cu (.dD id)=(.dD id)/\ae.dJ (.dD id)=false/\ae.cells? (.dD id)=some [(.dD id)]/\ae.dp (.dD id)=true/\ae.plainCell (.dD id)=false/\ae.plain (.dD id)=false/\ae.cells (.dD id)=[(.dD id)]/\ae.cX (.dD id)=[id]/\ae.fP (.dD id)=[id]/\ae.ids (.dD id)=[id]) /\
  (∀M id,ae.gQ M (.dD id)=(.dD id)/\ae.ot M (.dD id)=(.dD id)):=by
 repeat' (first|rfl|intro _|apply And.intro)
def TG3:(∀B M ks vs,ae.dQ B M (.dI ks vs)=(.dI ks vs)/\ae.eH B M (.dI ks vs)=(.dI ks vs)/\ae.eJ B M (.dI ks vs)=(.dI ks vs)/\ae.gx B M (.dI ks vs)=(.dI ks vs)/\ae.dY B M (.dI ks vs)=(.dI ks vs)/\ae.eh B M (.dI ks vs)=(.dI ks vs)/\ae.fC B M (.dI ks vs)=(.dI ks vs)) /\
  (∀ks vs,ae.shut (.dI ks vs)=(.dI ks vs)/\ae.cu (.dI ks vs)=(.dI ks vs)/\ae.dJ (.dI ks vs)=false/\ae.cells? (.dI ks vs)=some [(.dI ks vs)]/\ae.dp (.dI ks vs)=true/\ae.plainCell (.dI ks vs)=false/\ae.plain (.dI ks vs)=false/\ae.cells (.dI ks vs)=[(.dI ks vs)]/\ae.cX (.dI ks vs)=[]/\ae.fP (.dI ks vs)=[]/\ae.ids (.dI ks vs)=[]) /\
  (∀M ks vs,ae.gQ M (.dI ks vs)=(.dI ks vs)/\ae.ot M (.dI ks vs)=(.dI ks vs)) /\
  (∀B M id ver sz lo hi,ae.dQ B M (.aW id ver sz lo hi)=(if id<B then (.aW id ver sz lo hi) else match M[id]? with|some (.arr _ v xs)=>if v=ver then .slice .sh ((xs.take hi).drop lo) else .any|_ => .any)/\ae.eH B M (.aW id ver sz lo hi)=(if id<B then (.aW id ver sz lo hi) else match M[id]? with|some (.arr _ v xs)=>if v=ver then .slice .sh ((xs.take hi).drop lo) else .any|_ => .any)/\ae.eJ B M (.aW id ver sz lo hi)=(if id<B then (.aW id ver sz lo hi) else match M[id]? with|some (.arr _ v xs)=>if v=ver then .slice .sh ((xs.take hi).drop lo) else .any|_ => .any)/\ae.gx B M (.aW id ver sz lo hi)=(if id<B then (.aW id ver sz lo hi) else match M[id]? with|some (.arr _ v xs)=>if v=ver then .slice .sh ((xs.take hi).drop lo) else .any|_ => .any)/\ae.dY B M (.aW id ver sz lo hi)=(if id<B then (.aW id ver sz lo hi) else match M[id]? with|some (.arr _ v xs)=>if v=ver then .slice .sh ((xs.take hi).drop lo) else .any|_ => .any)/\ae.eh B M (.aW id ver sz lo hi)=(if id<B then (.aW id ver sz lo hi) else match M[id]? with|some (.arr _ v xs)=>if v=ver then .slice .sh ((xs.take hi).drop lo) else .any|_ => .any)/\ae.fC B M (.aW id ver sz lo hi)=(if id<B then (.aW id ver sz lo hi) else match M[id]? with|some (.arr _ v xs)=>if v=ver then .slice .sh ((xs.take hi).drop lo) else .any|_ => .any)) /\
  (∀id ver sz lo hi,ae.shut (.aW id ver sz lo hi)=(.aW id ver sz lo hi)/\ae.cu (.aW id ver sz lo hi)=(.aW id ver sz lo hi)/\ae.dJ (.aW id ver sz lo hi)=false/\ae.cells? (.aW id ver sz lo hi)=some [(.aW id ver sz lo hi)]/\ae.dp (.aW id ver sz lo hi)=true/\ae.plainCell (.aW id ver sz lo hi)=false/\ae.plain (.aW id ver sz lo hi)=false/\ae.cells (.aW id ver sz lo hi)=[(.aW id ver sz lo hi)]/\ae.cX (.aW id ver sz lo hi)=[id]/\ae.fP (.aW id ver sz lo hi)=[id]/\ae.ids (.aW id ver sz lo hi)=[id]) /\
  (∀B M id ver i off,ae.dQ B M (.dk id ver i off)=(if id<B then (.dk id ver i off) else .any)/\ae.eH B M (.dk id ver i off)=(if id<B then (.dk id ver i off) else .any)/\ae.eJ B M (.dk id ver i off)=(if id<B then (.dk id ver i off) else .any)/\ae.gx B M (.dk id ver i off)=(if id<B then (.dk id ver i off) else .any)/\ae.dY B M (.dk id ver i off)=(if id<B then (.dk id ver i off) else .any)/\ae.eh B M (.dk id ver i off)=(if id<B then (.dk id ver i off) else .any)/\ae.fC B M (.dk id ver i off)=(if id<B then (.dk id ver i off) else .any)) /\
  (∀id ver i off,ae.shut (.dk id ver i off)=(.dk id ver i off)/\ae.cu (.dk id ver i off)=(.dk id ver i off)/\ae.dJ (.dk id ver i off)=false/\ae.cells? (.dk id ver i off)=some [(.dk id ver i off)]/\ae.dp (.dk id ver i off)=true/\ae.plainCell (.dk id ver i off)=false/\ae.plain (.dk id ver i off)=false/\ae.cells (.dk id ver i off)=[(.dk id ver i off)]/\ae.cX (.dk id ver i off)=[id]/\ae.fP (.dk id ver i off)=[id]/\ae.ids (.dk id ver i off)=[id]) /\
  (∀M id ver i off,ae.gQ M (.dk id ver i off)=(.dk id ver i off)/\ae.ot M (.dk id ver i off)=(.dk id ver i off)):=by
 repeat' (first|rfl|intro _|apply And.intro)
def TG4:(∀B M f fs,ae.dQ B M (.iM f fs)=(.iM f fs)/\ae.eH B M (.iM f fs)=(.iM f fs)/\ae.eJ B M (.iM f fs)=(.iM f fs)/\ae.gx B M (.iM f fs)=(.iM f fs)/\ae.dY B M (.iM f fs)=(.iM f fs)/\ae.eh B M (.iM f fs)=(.iM f fs)/\ae.fC B M (.iM f fs)=(.iM f fs)) /\
  (∀f fs,ae.shut (.iM f fs)=(.iM f fs)/\ae.cu (.iM f fs)=(.iM f fs)/\ae.dJ (.iM f fs)=false/\ae.cells? (.iM f fs)=some [(.iM f fs)]/\ae.dp (.iM f fs)=true/\ae.plainCell (.iM f fs)=false/\ae.plain (.iM f fs)=false/\ae.cells (.iM f fs)=[(.iM f fs)]/\ae.cX (.iM f fs)=[]/\ae.fP (.iM f fs)=[]/\ae.ids (.iM f fs)=[]) /\
  (∀M f fs,ae.gQ M (.iM f fs)=(.iM f fs)/\ae.ot M (.iM f fs)=(.iM f fs)) /\
  (∀B M t id off,ae.dQ B M (.dU t id off)=(if id<B then (.dU t id off) else .any)/\ae.eH B M (.dU t id off)=(if id<B then (.dU t id off) else .any)/\ae.eJ B M (.dU t id off)=(if id<B then (.dU t id off) else .any)/\ae.gx B M (.dU t id off)=(if id<B then (.dU t id off) else .any)/\ae.dY B M (.dU t id off)=(if id<B then (.dU t id off) else .any)/\ae.eh B M (.dU t id off)=(if id<B then (.dU t id off) else .any)/\ae.fC B M (.dU t id off)=(if id<B then (.dU t id off) else .any)) /\
  (∀t id off,ae.shut (.dU t id off)=(.dU t id off)/\ae.cu (.dU t id off)=(.dU t id off)/\ae.dJ (.dU t id off)=false/\ae.cells? (.dU t id off)=some [(.dU t id off)]/\ae.dp (.dU t id off)=true/\ae.plainCell (.dU t id off)=false/\ae.plain (.dU t id off)=false/\ae.cells (.dU t id off)=[(.dU t id off)]/\ae.cX (.dU t id off)=[id]/\ae.fP (.dU t id off)=[id]/\ae.ids (.dU t id off)=[id]) /\
  (∀M t id off,ae.gQ M (.dU t id off)=(.dU t id off)/\ae.ot M (.dU t id off)=(.dU t id off)) /\
  (∀B M v,ae.dQ B M (.fQ v)=(.fQ v)/\ae.eH B M (.fQ v)=(.fQ v)/\ae.eJ B M (.fQ v)=(.fQ v)/\ae.gx B M (.fQ v)=(.fQ v)/\ae.dY B M (.fQ v)=(.fQ v)/\ae.eh B M (.fQ v)=(.fQ v)/\ae.fC B M (.fQ v)=(.fQ v)) /\
  (∀v,ae.shut (.fQ v)=(.fQ v)/\ae.cu (.fQ v)=(.fQ v)/\ae.dJ (.fQ v)=true/\ae.plainCell (.fQ v)=false/\ae.plain (.fQ v)=false/\ae.cells (.fQ v)=[(.fQ v)]/\ae.cX (.fQ v)=[]/\ae.fP (.fQ v)=[]/\ae.ids (.fQ v)=[]):=by
 repeat' (first|rfl|intro _|apply And.intro)
def TG5:(∀M v,ae.gQ M (.fQ v)=(.fQ v)/\ae.ot M (.fQ v)=(.fQ v)) /\
  (∀B M v,ae.dQ B M (.raw v)=(.raw v)/\ae.eH B M (.raw v)=(.raw v)/\ae.eJ B M (.raw v)=(.raw v)/\ae.gx B M (.raw v)=(.raw v)/\ae.dY B M (.raw v)=(.raw v)/\ae.eh B M (.raw v)=(.raw v)/\ae.fC B M (.raw v)=(.raw v)) /\
  (∀v,ae.shut (.raw v)=(.raw v)/\ae.cu (.raw v)=(.raw v)/\ae.dJ (.raw v)=false/\ae.cells (.raw v)=[(.raw v)]/\ae.cX (.raw v)=[]/\ae.fP (.raw v)=[]/\ae.ids (.raw v)=[]) /\
  (∀M v,ae.gQ M (.raw v)=(.raw v)/\ae.ot M (.raw v)=(.raw v)) /\
  (∀B M,ae.dQ B M .any = .any/\ae.eH B M .any = .any/\ae.eJ B M .any = .any/\ae.gx B M .any = .any/\ae.dY B M .any = .any/\ae.eh B M .any = .any/\ae.fC B M .any = .any) /\
  (ae.shut .any = .any/\ae.cu .any = .any/\ae.dJ .any=false/\ae.plainCell .any=false/\ae.plain .any=false/\ae.cells .any=[.any]/\ae.cX .any=[]/\ae.fP .any=[]/\ae.ids .any=[]) /\
  (∀M,ae.gQ M .any = .any/\ae.ot M .any = .any) /\
  (∀B M xs,ae.dQ B M (.slice .sh xs)=(.slice .sh xs)/\ae.eH B M (.slice .sh xs)=(.slice .sh xs)/\ae.eJ B M (.slice .sh xs)=(.slice .sh xs)/\ae.gx B M (.slice .sh xs)=(.slice .sh xs)/\ae.dY B M (.slice .sh xs) = .slice .sh xs/\ae.eh B M (.slice .sh xs) = .slice .sh xs/\ae.fC B M (.slice .sh xs) = .slice .sh xs):=by
 repeat' (first|rfl|intro _|apply And.intro)
def TG6:(∀xs,ae.shut (.slice .sh xs) = .slice .sh xs/\ae.cu (.slice .sh xs) = .slice .sh xs/\ae.dJ (.slice .sh xs)=false/\ae.cells? (.slice .sh xs)=some [(.slice .sh xs)]/\ae.dp (.slice .sh xs)=true/\ae.plainCell (.slice .sh xs)=true/\ae.plain (.slice .sh xs)=true/\ae.cells (.slice .sh xs)=[(.slice .sh xs)]/\ae.cX (.slice .sh xs)=[]/\ae.fP (.slice .sh xs)=[]/\ae.ids (.slice .sh xs)=[]) /\
  (∀M xs,ae.gQ M (.slice .sh xs)=(.slice .sh xs)/\ae.ot M (.slice .sh xs)=(.slice .sh xs)) /\
  (∀B M xs,ae.dQ B M (.slice .c0 xs)=(.slice .c0 xs)/\ae.eH B M (.slice .c0 xs)=(.slice .c0 xs)/\ae.eJ B M (.slice .c0 xs)=(.slice .c0 xs)/\ae.gx B M (.slice .c0 xs)=(.slice .c0 xs)/\ae.dY B M (.slice .c0 xs) = .slice .sh xs/\ae.eh B M (.slice .c0 xs) = .slice .sh xs/\ae.fC B M (.slice .c0 xs) = .slice .sh xs) /\
  (∀xs,ae.shut (.slice .c0 xs) = .slice .sh xs/\ae.cu (.slice .c0 xs) = .slice .sh xs/\ae.dJ (.slice .c0 xs)=false/\ae.cells? (.slice .c0 xs)=some [(.slice .c0 xs)]/\ae.dp (.slice .c0 xs)=true/\ae.plainCell (.slice .c0 xs)=false/\ae.plain (.slice .c0 xs)=false/\ae.cells (.slice .c0 xs)=[(.slice .c0 xs)]/\ae.cX (.slice .c0 xs)=[]/\ae.fP (.slice .c0 xs)=[]/\ae.ids (.slice .c0 xs)=[]) /\
  (∀M xs,ae.gQ M (.slice .c0 xs)=(.slice .c0 xs)/\ae.ot M (.slice .c0 xs)=(.slice .c0 xs)) /\
  (∀B M k xs,ae.dQ B M (.slice (.own k) xs)=(if k<B then (.slice (.own k) xs) else .slice .sh xs)/\ae.eH B M (.slice (.own k) xs)=(if k<B then (.slice (.own k) xs) else .slice .sh xs)/\ae.eJ B M (.slice (.own k) xs)=(if k<B then (.slice (.own k) xs) else .slice .sh xs)/\ae.gx B M (.slice (.own k) xs)=(if k<B then (.slice (.own k) xs) else .slice .sh xs)/\ae.dY B M (.slice (.own k) xs) = .slice .sh xs/\ae.eh B M (.slice (.own k) xs) = .slice .sh xs/\ae.fC B M (.slice (.own k) xs) = .slice .sh xs) /\
  (∀k xs,ae.shut (.slice (.own k) xs) = .slice .sh xs/\ae.cu (.slice (.own k) xs) = .slice .sh xs/\ae.dJ (.slice (.own k) xs)=false/\ae.cells? (.slice (.own k) xs)=some [(.slice (.own k) xs)]/\ae.dp (.slice (.own k) xs)=true/\ae.plainCell (.slice (.own k) xs)=false/\ae.plain (.slice (.own k) xs)=false/\ae.cells (.slice (.own k) xs)=[(.slice (.own k) xs)]/\ae.cX (.slice (.own k) xs)=[k]/\ae.fP (.slice (.own k) xs)=[k]/\ae.ids (.slice (.own k) xs)=[k]) /\
  (∀M k xs,ae.gQ M (.slice (.own k) xs)=(.slice (.own k) xs)/\ae.ot M (.slice (.own k) xs)=(.slice (.own k) xs)):=by
 repeat' (first|rfl|intro _|apply And.intro)
def TG7:(∀B M cs,ae.dQ B M (.agg cs) = .any/\ae.eH B M (.agg cs) = .any/\ae.eJ B M (.agg cs) = .agg (cs.map (ae.eH B M))/\ae.gx B M (.agg cs) = .agg (cs.map (ae.eH B M))/\ae.dY B M (.agg cs) = .any/\ae.eh B M (.agg cs) = .agg (cs.map (ae.dY B M))/\ae.fC B M (.agg cs) = .agg (cs.map (ae.dY B M))) /\
  (∀cs,ae.shut (.agg cs)=(.agg cs)/\ae.cu (.agg cs) = .agg (cs.map ae.shut)/\ae.dJ (.agg cs)=false/\ae.cells? (.agg cs)=some cs/\ae.dp (.agg cs)=false/\ae.plainCell (.agg cs)=false/\ae.plain (.agg cs)=cs.all ae.plainCell/\ae.cells (.agg cs)=cs/\ae.cX (.agg cs)=[]/\ae.fP (.agg cs)=[]/\ae.ids (.agg cs)=cs.flatMap ae.fP) /\
  (∀M cs,ae.gQ M (.agg cs)=(.agg cs)/\ae.ot M (.agg cs) = .agg (cs.map (ae.gQ M))) /\
  (∀B M cs,ae.dQ B M (.tuple cs) = .any/\ae.eH B M (.tuple cs) = .any/\ae.eJ B M (.tuple cs) = .any/\ae.gx B M (.tuple cs) = .tuple (cs.map (ae.eJ B M))/\ae.dY B M (.tuple cs) = .any/\ae.eh B M (.tuple cs) = .any/\ae.fC B M (.tuple cs) = .tuple (cs.map (ae.eh B M))) /\
  (∀cs,ae.shut (.tuple cs)=(.tuple cs)/\ae.cu (.tuple cs)=(.tuple cs)/\ae.dJ (.tuple cs)=false/\ae.plainCell (.tuple cs)=false/\ae.plain (.tuple cs)=false/\ae.cells (.tuple cs)=[(.tuple cs)]/\ae.cX (.tuple cs)=[]/\ae.fP (.tuple cs)=[]/\ae.ids (.tuple cs)=[]) /\
  (∀M cs,ae.gQ M (.tuple cs)=(.tuple cs)/\ae.ot M (.tuple cs)=(.tuple cs)):=by
 repeat' (first|rfl|intro _|apply And.intro)
def aB{C:bL}{fn:List km}{base:Nat}{k:List K}{t:Bool}{x y:aO}{env:Env}{M:aj}{r:Option (ae×aj)}
  (h1:t=true->bS C fn base k x env M=r) (h2:t=false->bS C fn base k y env M=r):bG C fn base k (.bool t) x y env M=r:=by
 cases t
 ·exact h2 rfl
 ·exact h1 rfl
def aJ{C:bL}{fn:List km}{base:Nat}{k:List K}{live:List Nat}{t w:Bool}{o:aX}{l:List aX}{env:Env}{M:aj}{r:Option (ae×aj)}
  (h1:t=w->fu C fn base k live o.lets o.dst l env (ga C o env M)=r) (h2:t = !w->cz C fn base k live l (iv env o.dst (.tuple [])) M=r):gK C fn base k live (.bool t) w o l env M=r:=by
 cases t<;>cases w
 ·exact h1 rfl
 ·exact h2 rfl
 ·exact h2 rfl
 ·exact h1 rfl
def bp{C:bL}{fn:List km}{base:Nat}{k:List K}{live:List Nat}{c:Bool}{d:Option Nat}{l:List aX}{env:Env}{t:Bool}{x y r:Option (ae×aj)}
  (h1:t=true->fu C fn base k live c d l env x=r) (h2:t=false->fu C fn base k live c d l env y=r):fu C fn base k live c d l env (rn t x y)=r:=by
 cases t
 ·exact h2 rfl
 ·exact h1 rfl
def jn{a b:Nat}(h:a<=1000000)(hb:b<=1000):aP a b=True:=by
 have:a*b<=1000000*1000:=Nat.mul_le_mul h hb;simp only[eq_iff_iff,iff_true];unfold aP;omega
def jx{a b:Nat}(h:a<=1000000:=by omega)(hb:b<=1000:=by omega):aP a b=True:=jn h hb
def nj{p:Prop}(h:p:=by omega):p=True:=eq_true h
def Zh{p:Prop}(h:¬p:=by omega):p=False:=eq_false h
def Ua(x:ae)(n:Nat):wid [x] n=(x.cells.length=n):=by simp[wid]
def T8(a b:List ae)(n:Nat):wid (a++b) n=(wid a n/\wid b n):=by
 simp only[eq_iff_iff];exact⟨fun h=>⟨fun x hx=>h x (List.mem_append_left _ hx),fun x hx=>h x (List.mem_append_right _ hx)⟩,fun h x hx=>(List.mem_append.1 hx).elim (h.1 x) (h.2 x)⟩
def T9(n:Nat):wid [] n=True:=by simp[wid]
def Ty(m:Nat):((m:Int)<0)=False:=by simp
def cL{n:Int}(h0 : -9223372036854775808<=n)(h1:n<=9223372036854775807):IntKind.i64.wrap n=n:=by rw[IntKind.wrap_i64]; omega
def vp{C:bL}{f:Nat}{vs:List ae}{r:ae}(h:C f vs []=some (r,[]))(h1:vs.all ae.flat=true)(h2:vs.flatMap ae.ids=[])(h3:r.oN=true)
  (h4:vs.map (ae.iE (da []))=vs) (h5:r.vm (px [])=r) (M:aj):ar C f vs M=some (r,M):=by
 have e0:reach M []=[]:=rfl;have e1:eG M []=[]:=rfl;have e2:(vs.map (ae.iE (da [])))=vs:=h4;unfold ar;rw[if_pos h1,h2,e0];simp only[dK,aI];rw[if_pos e1,e2,h];simp[h3,h5,eW]
def cO{C:bL}{f:Nat}{vs:List ae}{r:ae}(h:C f vs []=some (r,[]))(M:aj)(h1:vs.all ae.flat=true:=by exact rfl)(h2:vs.flatMap ae.ids=[]:=by exact rfl)(h3:r.oN=true:=by exact rfl)(h4:vs.map (ae.iE (da []))=vs:=by exact rfl)(h5:r.vm (px [])=r:=by exact rfl):ar C f vs M=some (r,M):=vp h h1 h2 h3 h4 h5 M
def cP{C:bL}{f:Nat}{vs:List ae}{r:ae}(h:C f vs []=some (r,[]))(h1:vs.all ae.flat=true:=by exact rfl)(h2:vs.flatMap ae.ids=[]:=by exact rfl)(h3:r.oN=true:=by exact rfl)(h4:vs.map (ae.iE (da []))=vs:=by exact rfl)(h5:r.vm (px [])=r:=by exact rfl)(M:aj):ar C f vs M=some (r,M):=vp h h1 h2 h3 h4 h5 M
def z8{M:aj}{p:Nat}{b:aM}(h:nth M p=some b):∀b',nth (dA M p b') p=some b':=by
 intro b';rw[cf] at h ⊢;rw[cG];exact br (aq h)
def gj{C:bL}{f p:Nat}{vs:List ae}{r:ae}{M:aj}{cs cs':List ae}(hM:nth M p=some (.cells cs))(h:C f (.ptr 0 0::vs) [.cells cs]=some (r,[.cells cs']))(h1:vs.all ae.flat=true)(h2:vs.flatMap ae.ids=[])(h3:r.oN=true)
  (h4:vs.map (ae.iE (da [p]))=vs) (h5:r.vm (px [p])=r) (h6:cs.all ae.n9=true) (h7:cs.flatMap ae.fP=[]) (h8:cs.map (ae.kK (da [p]))=cs) (h9:cs'.all ae.n9=true) (h10:cs'.map (ae.kK (px [p]))=cs') :
  ar C f (.ptr p 0::vs) M=some (r,dA M p (.cells cs')):=by
 have hids:(ae.ptr p 0::vs).flatMap ae.ids=[p]:=by simp[ae.ids,ae.fP,ae.cX,h2]
 have hi:iU M [p]=[]:=by simp[iU,hM,aM.ids,h7]
 have e0:eG M [p]=[p]:=by simp[eG,hi,ef]
 have e1:reach M [p]=[p]:=by
  have ea:ef [] [p]=[p]:=rfl;simp only[reach,ea,e0]
 have hfl:(ae.ptr p 0::vs).all ae.flat=true:=by simp only[List.all_cons,h1,Bool.and_true]; rfl
 unfold ar;rw[if_pos hfl,hids,e1];have hpk:dK M (da [p]) [p]=some [.cells cs]:=by simp[dK,hM,aM.flat,h6,aM.iE,h8]
 rw[hpk];simp only[aI];rw[if_pos e0]
 have hrn:(ae.ptr p 0::vs).map (ae.iE (da [p])) = .ptr 0 0::vs:=by
  simp only[List.map_cons,h4];simp[ae.iE,ae.kK,ae.kJ,da]
 rw[hrn,h];simp only[aI];rw[if_pos ⟨rfl,h3,by simp[aM.flat,h9]⟩,h5]
 simp only[eW,aM.iE,h10]
def max_lt(n:Nat)(h:n<=9223372036854775807):(IntKind.i64.max<(n:Int))=False:=by
 have:IntKind.i64.max=9223372036854775807:=rfl;simp only[eq_iff_iff,iff_false,this]; omega
set_option linter.defProp false in
def EVT:=And.intro @Jl (And.intro @Jk (And.intro @Rs (And.intro @Ru (And.intro @GV (And.intro @Jj (And.intro @DL (And.intro @Pp (And.intro @HK (And.intro @HL (And.intro @O0 (And.intro @Tz (And.intro @Hq (And.intro @D7 (And.intro @D5 (And.intro @D6 (And.intro @D8 (And.intro @adL (And.intro @adI (And.intro @adK (And.intro @adJ (And.intro @adM (And.intro @RE (And.intro @RD (And.intro @Yv (And.intro @BU (And.intro @DZ (And.intro @DY (And.intro @zF (And.intro @BS (And.intro @Od (And.intro @xG (And.intro @zG (And.intro @RP (And.intro @zH (And.intro @BT (And.intro @Yu (And.intro @List.map_cons.{0,0} (And.intro @List.map_nil.{0,0} (And.intro @aI (And.intro @o5 (And.intro @iW (And.intro @Nat.add_zero (And.intro @Nat.zero_add (And.intro @List.length_cons.{0} (And.intro @List.length_nil.{0} (And.intro @List.all_cons.{0} (And.intro @List.all_nil.{0} (And.intro @Bool.and_self (And.intro @List.take_zero.{0} (And.intro @List.nil_append.{0} (And.intro @List.take_succ_cons.{0} (And.intro @List.drop_succ_cons.{0} (And.intro @List.drop_zero.{0} (And.intro @List.drop_nil.{0} (And.intro @List.take_nil.{0} (And.intro @List.append_nil.{0} (And.intro @List.cons_append.{0} (And.intro @Nat.le_refl (And.intro @and_self (And.intro @not_true_eq_false (And.intro @not_false_eq_true (And.intro @Nat.one_ne_zero (And.intro @Nat.zero_ne_one (And.intro @Nat.not_lt_zero (And.intro @Nat.lt_irrefl (And.intro @List.map_take.{0,0} (And.intro @List.length_map.{0,0} (And.intro @Int.toNat_natCast (And.intro @List.getElem?_map.{0,0} (And.intro @Option.map_some.{0,0} (And.intro @Ei (And.intro @Int.natCast_nonneg (And.intro @decide_true (And.intro @decide_false (And.intro @BEq.rfl.{0} (And.intro @beq_self_eq_true.{0} (And.intro @Bool.not_true (And.intro @Bool.not_false (And.intro @Ty (And.intro @Ua (And.intro @T9 (And.intro @and_true (And.intro @true_and (And.intro @Bool.and_true (And.intro @List.length_append.{0} (And.intro @ge_iff_le.{0} (And.intro @gt_iff_lt.{0} (And.intro @T8 (And.intro @List.prefix_refl.{0} (And.intro @true_or (And.intro @or_true (And.intro @List.cons_prefix_cons.{0} (And.intro @List.nil_prefix.{0} (And.intro @List.cons_ne_nil.{0} (And.intro @List.flatMap_cons.{0,0} (And.intro @List.flatMap_nil.{0,0} (And.intro @max_lt (And.intro @TG0 (And.intro @TG1 (And.intro @TG2 (And.intro @TG3 (And.intro @TG4 (And.intro @TG5 (And.intro @TG6 (@TG7)))))))))))))))))))))))))))))))))))))))))))))))))))))))))))))))))))))))))))))))))))))))))))))))))))))))))
set_option linter.defProp false in
def EVD:=And.intro @finish.eq_1 (And.intro @ki.eq_1 (And.intro @ki.eq_2 (And.intro @w9.eq_1 (And.intro @w9.eq_2 (And.intro @w9.eq_3 (And.intro @one.eq_1 (And.intro @one.eq_2 (And.intro @ga.eq_1 (And.intro @bC.eq_1 (And.intro @bC.eq_2 (And.intro @bC.eq_3 (And.intro @bC.eq_4 (And.intro @bC.eq_5 (And.intro @bC.eq_6 (And.intro @bC.eq_7 (And.intro @bC.eq_8 (And.intro @bC.eq_9 (And.intro @bC.eq_10 (And.intro @bC.eq_11 (And.intro @bC.eq_12 (And.intro @bC.eq_13 (And.intro @bC.eq_14 (And.intro @bC.eq_15 (And.intro @bC.eq_16 (And.intro @bC.eq_17 (And.intro @bC.eq_18 (And.intro @bC.eq_19 (And.intro @bC.eq_20 (And.intro @bC.eq_21 (And.intro @bC.eq_22 (And.intro @bC.eq_23 (And.intro @bC.eq_24 (And.intro @bC.eq_25 (And.intro @bC.eq_26 (And.intro @bC.eq_27 (And.intro @bC.eq_28 (And.intro @bC.eq_29 (And.intro @bC.eq_30 (And.intro @bC.eq_31 (And.intro @bC.eq_32 (And.intro @bC.eq_33 (And.intro @bC.eq_34 (And.intro @bC.eq_35 (And.intro @bC.eq_36 (And.intro @bC.eq_37 (And.intro @bC.eq_38 (And.intro @bC.eq_39 (And.intro @bC.eq_40 (And.intro @bC.eq_41 (And.intro @bC.eq_42 (And.intro @bC.eq_43 (And.intro @bC.eq_44 (And.intro @bC.eq_45 (And.intro @bC.eq_46 (And.intro @bC.eq_47 (And.intro @bC.eq_48 (And.intro @bC.eq_49 (And.intro @bC.eq_50 (And.intro @bC.eq_51 (And.intro @bC.eq_52 (And.intro @bC.eq_53 (And.intro @bC.eq_54 (And.intro @bC.eq_55 (And.intro @bC.eq_56 (And.intro @bW.eq_1 (And.intro @bW.eq_2 (And.intro @cR.ev.eq_1 (And.intro @cR.ev.eq_2 (And.intro @dg.eq_1 (And.intro @dg.eq_2 (And.intro @iv.eq_1 (And.intro @iv.eq_2 (And.intro @fj.eq_1 (And.intro @nth.eq_1 (And.intro @nth.eq_2 (And.intro @nth.eq_3 (And.intro @dA.eq_1 (And.intro @dA.eq_2 (And.intro @dA.eq_3 (And.intro @iI.eq_1 (And.intro @iI.eq_2 (And.intro @iI.eq_3 (And.intro @iI.eq_4 (And.intro @iI.eq_5 (And.intro @iI.eq_6 (And.intro @iI.eq_7 (And.intro @iI.eq_8 (And.intro @iI.eq_9 (And.intro @iI.eq_10 (And.intro @iI.eq_11 (And.intro @iI.eq_12 (And.intro @iI.eq_13 (And.intro @iI.eq_14 (And.intro @iI.eq_15 (And.intro @iI.eq_16 (And.intro @iI.eq_17 (And.intro @iI.eq_18 (And.intro @iI.eq_19 (And.intro @iI.eq_20 (And.intro @iI.eq_21 (And.intro @iI.eq_22 (And.intro @iI.eq_23 (And.intro @iI.eq_24 (And.intro @iI.eq_25 (And.intro @fK.eq_1 (And.intro @rJ.eq_1 (And.intro @fh.eq_1 (And.intro @aM.back.eq_1 (And.intro @aM.back.eq_2 (And.intro @aM.back.eq_3 (And.intro @aM.back.eq_4 (And.intro @aM.back.eq_5 (And.intro @kg.eq_1 (And.intro @kg.eq_2 (And.intro @pb.eq_1 (And.intro @pb.eq_2 (And.intro @eZ.eq_1 (And.intro @eZ.eq_2 (And.intro @eu.bA.eq_1 (And.intro @eu.bA.eq_2 (And.intro @eu.bA.eq_3 (And.intro @bX.eq_1 (And.intro @bX.eq_2 (And.intro @ob.eq_1 (And.intro @og.eq_1 (And.intro @ox.eq_1 (And.intro @bytesOf.eq_1 (And.intro @valOf.eq_1 (@valOf.eq_2)))))))))))))))))))))))))))))))))))))))))))))))))))))))))))))))))))))))))))))))))))))))))))))))))))))))))))))))))))))))))))))))))
set_option linter.defProp false in
def iw:=And.intro @Bool.and_true (And.intro @Bool.true_and (And.intro @Bool.and_false (And.intro @Bool.false_and (And.intro @Bool.or_true (And.intro @Bool.true_or (And.intro @Bool.or_false (And.intro @Bool.false_or (And.intro @Bool.not_true (And.intro @Bool.not_false (And.intro @Bool.and_self (And.intro @Bool.or_self (And.intro @Bool.false_eq_true (@beq_self_eq_true.{0})))))))))))))
set_option linter.defProp false in
def EV:=And.intro @ne_eq.{1} (And.intro EVT EVD)
end Go.Abs
namespace Go.Proofs.YtahkjijkflobhaaGreatDoor
section
open Go Go.Abs
def Ja:Nat->Option bD
 |238=>some KS
 |239=>some KT
 |240=>some UQ
 |243=>some KU
 |244=>some KV
 |245=>some KW
 |246=>some KX
 |247=>some KY
 |248=>some Bs
 |249=>some Bt
 |250=>some KZ
 |251=>some Bu
 |252=>some Bv
 |253=>some K0
 |254=>some K1
 |258=>some K2
 |259=>some Fh
 |261=>some K3
 |262=>some K4
 |263=>some K5
 |264=>some K6
 |265=>some K7
 |266=>some K8
 |273=>some Bw
 |275=>some K9
 |286=>some La
 |287=>some Bx
 |288=>some Bz
 |296=>some Lb
 |307=>some BA
 |325=>some x9
 |_=>none
def I9:Nat->Option bD
 |155=>some UK
 |156=>some UL
 |157=>some Bi
 |159=>some UM
 |160=>some Fc
 |161=>some JY
 |162=>some JZ
 |163=>some J0
 |164=>some Fe
 |165=>some J1
 |166=>some J2
 |167=>some J3
 |168=>some J4
 |169=>some J5
 |170=>some Ff
 |171=>some Fg
 |172=>some Bj
 |173=>some J6
 |174=>some J7
 |175=>some J8
 |176=>some Bk
 |177=>some J9
 |178=>some Ka
 |179=>some Kb
 |180=>some Kc
 |181=>some Kd
 |182=>some Ke
 |183=>some Kf
 |184=>some Kg
 |185=>some Kh
 |186=>some Ki
 |187=>some Bl
 |188=>some Bm
 |189=>some Kj
 |190=>some Kk
 |191=>some Bn
 |192=>some Bo
 |193=>some Kl
 |194=>some Km
 |195=>some Kn
 |196=>some Kq
 |197=>some Kr
 |198=>some Ks
 |199=>some Kt
 |200=>some Ku
 |203=>some Kv
 |204=>some Kw
 |205=>some Kx
 |206=>some Ky
 |207=>some x8
 |208=>some Kz
 |209=>some KA
 |210=>some KB
 |211=>some KC
 |212=>some KD
 |213=>some Bq
 |215=>some KE
 |217=>some UN
 |218=>some KG
 |221=>some Br
 |222=>some KH
 |225=>some KI
 |226=>some KJ
 |227=>some KK
 |232=>some KL
 |233=>some KM
 |234=>some KN
 |235=>some KQ
 |236=>some UO
 |237=>some KR
 |f=>Ja f
def I8:Nat->Option bD
 |80=>some adA
 |81=>some adB
 |82=>some adC
 |83=>some adE
 |84=>some WR
 |85=>some WS
 |86=>some WT
 |87=>some WU
 |88=>some WV
 |89=>some WW
 |90=>some WX
 |91=>some adG
 |92=>some WY
 |93=>some WZ
 |94=>some W0
 |95=>some W6
 |96=>some W7
 |97=>some W8
 |98=>some W9
 |99=>some Xa
 |100=>some Js
 |101=>some Jt
 |102=>some Ju
 |103=>some E5
 |104=>some Jv
 |105=>some Bb
 |106=>some Jw
 |107=>some Jy
 |108=>some Jz
 |109=>some JA
 |110=>some E6
 |111=>some rU
 |112=>some JB
 |113=>some qe
 |114=>some wj
 |115=>some x6
 |116=>some E7
 |117=>some x7
 |118=>some JC
 |119=>some Bc
 |120=>some JD
 |124=>some JE
 |125=>some JF
 |126=>some JG
 |127=>some JH
 |128=>some JI
 |129=>some JJ
 |130=>some JL
 |131=>some JM
 |132=>some qi
 |133=>some JN
 |134=>some JO
 |135=>some JP
 |136=>some Fa
 |137=>some JQ
 |138=>some Be
 |140=>some Bf
 |141=>some Bg
 |142=>some JR
 |143=>some JS
 |145=>some Bh
 |146=>some JT
 |147=>some JU
 |148=>some JV
 |149=>some UH
 |150=>some UI
 |151=>some UJ
 |152=>some JW
 |153=>some Fb
 |154=>some JX
 |f=>I9 f
def code:Nat->Option bD
 |3=>some fn3
 |4=>some fn4
 |5=>some fn5
 |6=>some fn6
 |7=>some fn7
 |8=>some fn8
 |9=>some fn9
 |10=>some Wt
 |11=>some Wu
 |12=>some Wv
 |13=>some JK
 |15=>some adl
 |16=>some Ww
 |17=>some adm
 |18=>some Wx
 |19=>some adn
 |20=>some Wy
 |21=>some ado
 |22=>some adp
 |23=>some Wz
 |24=>some lr
 |27=>some WA
 |28=>some WB
 |29=>some adq
 |30=>some adr
 |31=>some ads
 |32=>some WC
 |33=>some WD
 |34=>some WE
 |35=>some GX
 |36=>some WG
 |37=>some WH
 |38=>some WI
 |39=>some WJ
 |40=>some adt
 |41=>some WK
 |42=>some adu
 |43=>some adv
 |44=>some adw
 |45=>some adx
 |46=>some ady
 |47=>some WL
 |48=>some WM
 |49=>some WN
 |50=>some xC
 |51=>some rV
 |52=>some tE
 |53=>some DP
 |54=>some Lc
 |55=>some Ld
 |56=>some GY
 |61=>some Rx
 |62=>some GZ
 |63=>some DQ
 |64=>some G2
 |65=>some BB
 |66=>some Lf
 |67=>some Ry
 |68=>some Lg
 |69=>some Rz
 |70=>some DR
 |71=>some xD
 |72=>some Lh
 |73=>some G3
 |74=>some Li
 |75=>some Lj
 |76=>some RA
 |77=>some WO
 |78=>some WQ
 |79=>some adz
 |f=>I8 f
noncomputable def fZ:Nat->Option (List ae->aj->Option (ae×aj))
 |216=>some (mi 3 2 217)
 |158=>some (mi 6 0 159)
 |274=>some (rp)
 |289=>some (Cf)
 |295=>some (su)
 |214=>some (fq 3 32)
 |255=>some (fq 6 80)
 |220=>some (fq 3 24)
 |202=>some (fq 3 24)
 |224=>some (jR 8 96)
 |230=>some (jR 3 24)
 |139=>some (Zi 1 1)
 |294=>some (eL 6)
 |260=>some (eL 3)
 |223=>some (j8 3)
 |228=>some (j8 3)
 |256=>some (eD 6 80)
 |257=>some (eD 3 32)
 |219=>some (eD 3 24)
 |229=>some (eD 3 24)
 |_=>none
noncomputable def aH:rD:=⟨code,fZ⟩
set_option maxRecDepth 100000 in
def bN{f:Nat}{c fn:bD}{func:Func}{A:xn}(h:some c=some fn)(h1:Tryz.prog.funcs[f]?=some func)(h2:iq Tryz.prog A func=some c):∃ A func,Tryz.prog.funcs[f]?=some func/\iq Tryz.prog A func=some fn:=by
 cases h; exact⟨_,_,h1,h2⟩
def I7(f:Nat)(fn:bD)(h:Ja f=some fn):∃A func,Tryz.prog.funcs[f]?=some func/\iq Tryz.prog A func=some fn:=by
 unfold Ja at h;split at h
 ·exact bN h Tryz.func238 agJ
 ·exact bN h Tryz.func239 agK
 ·exact bN h Tryz.func240 agL
 ·exact bN h Tryz.func243 agM
 ·exact bN h Tryz.func244 agN
 ·exact bN h Tryz.func245 agO
 ·exact bN h Tryz.func246 agP
 ·exact bN h Tryz.func247 agQ
 ·exact bN h Tryz.func248 agR
 ·exact bN h Tryz.func249 agS
 ·exact bN h Tryz.func250 agT
 ·exact bN h Tryz.func251 agU
 ·exact bN h Tryz.func252 agV
 ·exact bN h Tryz.func253 agW
 ·exact bN h Tryz.func254 agX
 ·exact bN h Tryz.func258 agY
 ·exact bN h Tryz.func259 agZ
 ·exact bN h Tryz.func261 ag1
 ·exact bN h Tryz.func262 ag2
 ·exact bN h Tryz.func263 ag3
 ·exact bN h Tryz.func264 ag4
 ·exact bN h Tryz.func265 ag5
 ·exact bN h Tryz.func266 ag6
 ·exact bN h Tryz.func273 ag7
 ·exact bN h Tryz.func275 ag8
 ·exact bN h Tryz.func286 ag9
 ·exact bN h Tryz.func287 aha
 ·exact bN h Tryz.func288 ahb
 ·exact bN h Tryz.func296 ahc
 ·exact bN h Tryz.func307 ahd
 ·exact bN h Tryz.func325 ahe
 ·cases h
set_option maxRecDepth 100000 in
def I6(f:Nat)(fn:bD)(h:I9 f=some fn):∃A func,Tryz.prog.funcs[f]?=some func/\iq Tryz.prog A func=some fn:=by
 unfold I9 at h;split at h
 ·exact bN h Tryz.func155 afz
 ·exact bN h Tryz.func156 afA
 ·exact bN h Tryz.func157 afB
 ·exact bN h Tryz.func159 afC
 ·exact bN h Tryz.func160 afD
 ·exact bN h Tryz.func161 afE
 ·exact bN h Tryz.func162 afF
 ·exact bN h Tryz.func163 afG
 ·exact bN h Tryz.func164 afH
 ·exact bN h Tryz.func165 afI
 ·exact bN h Tryz.func166 afJ
 ·exact bN h Tryz.func167 afK
 ·exact bN h Tryz.func168 afL
 ·exact bN h Tryz.func169 afM
 ·exact bN h Tryz.func170 afN
 ·exact bN h Tryz.func171 afO
 ·exact bN h Tryz.func172 afP
 ·exact bN h Tryz.func173 afQ
 ·exact bN h Tryz.func174 afR
 ·exact bN h Tryz.func175 afS
 ·exact bN h Tryz.func176 afT
 ·exact bN h Tryz.func177 afU
 ·exact bN h Tryz.func178 afV
 ·exact bN h Tryz.func179 afW
 ·exact bN h Tryz.func180 afX
 ·exact bN h Tryz.func181 afY
 ·exact bN h Tryz.func182 afZ
 ·exact bN h Tryz.func183 af0
 ·exact bN h Tryz.func184 af1
 ·exact bN h Tryz.func185 af2
 ·exact bN h Tryz.func186 af3
 ·exact bN h Tryz.func187 af4
 ·exact bN h Tryz.func188 af5
 ·exact bN h Tryz.func189 af6
 ·exact bN h Tryz.func190 af7
 ·exact bN h Tryz.func191 af8
 ·exact bN h Tryz.func192 af9
 ·exact bN h Tryz.func193 aga
 ·exact bN h Tryz.func194 agb
 ·exact bN h Tryz.func195 agc
 ·exact bN h Tryz.func196 agd
 ·exact bN h Tryz.func197 age
 ·exact bN h Tryz.func198 agf
 ·exact bN h Tryz.func199 agh
 ·exact bN h Tryz.func200 agi
 ·exact bN h Tryz.func203 agk
 ·exact bN h Tryz.func204 agl
 ·exact bN h Tryz.func205 agm
 ·exact bN h Tryz.func206 agn
 ·exact bN h Tryz.func207 ago
 ·exact bN h Tryz.func208 agp
 ·exact bN h Tryz.func209 agq
 ·exact bN h Tryz.func210 agr
 ·exact bN h Tryz.func211 ags
 ·exact bN h Tryz.func212 agt
 ·exact bN h Tryz.func213 agu
 ·exact bN h Tryz.func215 agv
 ·exact bN h Tryz.func217 agw
 ·exact bN h Tryz.func218 agx
 ·exact bN h Tryz.func221 agy
 ·exact bN h Tryz.func222 agz
 ·exact bN h Tryz.func225 agA
 ·exact bN h Tryz.func226 agB
 ·exact bN h Tryz.func227 agC
 ·exact bN h Tryz.func232 agD
 ·exact bN h Tryz.func233 agE
 ·exact bN h Tryz.func234 agF
 ·exact bN h Tryz.func235 agG
 ·exact bN h Tryz.func236 agH
 ·exact bN h Tryz.func237 agI
 ·exact I7 _ _ h
set_option maxRecDepth 100000 in
def I5(f:Nat)(fn:bD)(h:I8 f=some fn):∃A func,Tryz.prog.funcs[f]?=some func/\iq Tryz.prog A func=some fn:=by
 unfold I8 at h;split at h
 ·exact bN h Tryz.func80 anu
 ·exact bN h Tryz.func81 anv
 ·exact bN h Tryz.func82 anw
 ·exact bN h Tryz.func83 anx
 ·exact bN h Tryz.func84 anz
 ·exact bN h Tryz.func85 anA
 ·exact bN h Tryz.func86 anB
 ·exact bN h Tryz.func87 anC
 ·exact bN h Tryz.func88 anE
 ·exact bN h Tryz.func89 anF
 ·exact bN h Tryz.func90 anG
 ·exact bN h Tryz.func91 anH
 ·exact bN h Tryz.func92 anI
 ·exact bN h Tryz.func93 anJ
 ·exact bN h Tryz.func94 anK
 ·exact bN h Tryz.func95 anL
 ·exact bN h Tryz.func96 anM
 ·exact bN h Tryz.func97 anN
 ·exact bN h Tryz.func98 anO
 ·exact bN h Tryz.func99 anP
 ·exact bN h Tryz.func100 aeJ
 ·exact bN h Tryz.func101 aeK
 ·exact bN h Tryz.func102 aeL
 ·exact bN h Tryz.func103 aeM
 ·exact bN h Tryz.func104 aeN
 ·exact bN h Tryz.func105 aeO
 ·exact bN h Tryz.func106 aeP
 ·exact bN h Tryz.func107 aeQ
 ·exact bN h Tryz.func108 aeR
 ·exact bN h Tryz.func109 aeS
 ·exact bN h Tryz.func110 aeT
 ·exact bN h Tryz.func111 aeU
 ·exact bN h Tryz.func112 aeV
 ·exact bN h Tryz.func113 aeW
 ·exact bN h Tryz.func114 aeX
 ·exact bN h Tryz.func115 aeY
 ·exact bN h Tryz.func116 aeZ
 ·exact bN h Tryz.func117 ae0
 ·exact bN h Tryz.func118 ae1
 ·exact bN h Tryz.func119 ae2
 ·exact bN h Tryz.func120 ae3
 ·exact bN h Tryz.func124 ae4
 ·exact bN h Tryz.func125 ae5
 ·exact bN h Tryz.func126 ae6
 ·exact bN h Tryz.func127 ae7
 ·exact bN h Tryz.func128 ae8
 ·exact bN h Tryz.func129 ae9
 ·exact bN h Tryz.func130 afa
 ·exact bN h Tryz.func131 afb
 ·exact bN h Tryz.func132 afc
 ·exact bN h Tryz.func133 afd
 ·exact bN h Tryz.func134 afe
 ·exact bN h Tryz.func135 aff
 ·exact bN h Tryz.func136 afg
 ·exact bN h Tryz.func137 afh
 ·exact bN h Tryz.func138 afi
 ·exact bN h Tryz.func140 afj
 ·exact bN h Tryz.func141 afk
 ·exact bN h Tryz.func142 afl
 ·exact bN h Tryz.func143 afm
 ·exact bN h Tryz.func145 afn
 ·exact bN h Tryz.func146 afo
 ·exact bN h Tryz.func147 afp
 ·exact bN h Tryz.func148 afq
 ·exact bN h Tryz.func149 afr
 ·exact bN h Tryz.func150 afu
 ·exact bN h Tryz.func151 afv
 ·exact bN h Tryz.func152 afw
 ·exact bN h Tryz.func153 afx
 ·exact bN h Tryz.func154 afy
 ·exact I6 _ _ h
set_option maxRecDepth 100000 in
def EX(f:Nat)(fn:bD)(h:code f=some fn):∃A func,Tryz.prog.funcs[f]?=some func/\iq Tryz.prog A func=some fn:=by
 unfold code at h;split at h
 ·exact bN h Tryz.func3 ok3
 ·exact bN h Tryz.func4 ok4
 ·exact bN h Tryz.func5 ok5
 ·exact bN h Tryz.func6 ok6
 ·exact bN h Tryz.func7 ok7
 ·exact bN h Tryz.func8 ok8
 ·exact bN h Tryz.func9 ok9
 ·exact bN h Tryz.func10 amr
 ·exact bN h Tryz.func11 ams
 ·exact bN h Tryz.func12 amt
 ·exact bN h Tryz.func13 amu
 ·exact bN h Tryz.func15 amv
 ·exact bN h Tryz.func16 amw
 ·exact bN h Tryz.func17 amx
 ·exact bN h Tryz.func18 amy
 ·exact bN h Tryz.func19 amz
 ·exact bN h Tryz.func20 amA
 ·exact bN h Tryz.func21 amB
 ·exact bN h Tryz.func22 amC
 ·exact bN h Tryz.func23 amD
 ·exact bN h Tryz.func24 amE
 ·exact bN h Tryz.func27 amF
 ·exact bN h Tryz.func28 amG
 ·exact bN h Tryz.func29 amH
 ·exact bN h Tryz.func30 amI
 ·exact bN h Tryz.func31 amJ
 ·exact bN h Tryz.func32 amK
 ·exact bN h Tryz.func33 amL
 ·exact bN h Tryz.func34 amM
 ·exact bN h Tryz.func35 amN
 ·exact bN h Tryz.func36 amO
 ·exact bN h Tryz.func37 amP
 ·exact bN h Tryz.func38 amQ
 ·exact bN h Tryz.func39 amR
 ·exact bN h Tryz.func40 amS
 ·exact bN h Tryz.func41 amT
 ·exact bN h Tryz.func42 amU
 ·exact bN h Tryz.func43 amV
 ·exact bN h Tryz.func44 amW
 ·exact bN h Tryz.func45 amX
 ·exact bN h Tryz.func46 amY
 ·exact bN h Tryz.func47 amZ
 ·exact bN h Tryz.func48 am0
 ·exact bN h Tryz.func49 am1
 ·exact bN h Tryz.func50 am2
 ·exact bN h Tryz.func51 am3
 ·exact bN h Tryz.func52 am4
 ·exact bN h Tryz.func53 am5
 ·exact bN h Tryz.func54 am6
 ·exact bN h Tryz.func55 am7
 ·exact bN h Tryz.func56 am8
 ·exact bN h Tryz.func61 am9
 ·exact bN h Tryz.func62 ana
 ·exact bN h Tryz.func63 anb
 ·exact bN h Tryz.func64 anc
 ·exact bN h Tryz.func65 ane
 ·exact bN h Tryz.func66 anf
 ·exact bN h Tryz.func67 ang
 ·exact bN h Tryz.func68 anh
 ·exact bN h Tryz.func69 ani
 ·exact bN h Tryz.func70 anj
 ·exact bN h Tryz.func71 ank
 ·exact bN h Tryz.func72 anl
 ·exact bN h Tryz.func73 anm
 ·exact bN h Tryz.func74 ann
 ·exact bN h Tryz.func75 ano
 ·exact bN h Tryz.func76 anp
 ·exact bN h Tryz.func77 anq
 ·exact bN h Tryz.func78 anr
 ·exact bN h Tryz.func79 ant
 ·exact I5 _ _ h
def FR(f:Nat)(g:List ae->aj->Option (ae×aj))(h:fZ f=some g)(args:List ae)(M:aj)(x:ae×aj)(hx:g args M=some x):fz Tryz.prog f=true/\bn Tryz.prog f args M x:=by
 unfold fZ at h;split at h
 ·cases h; exact⟨by kernel_rfl,Qc hx⟩
 ·cases h; exact⟨by kernel_rfl,Qb hx⟩
 ·cases h; exact⟨by kernel_rfl,DV hx⟩
 ·cases h; exact⟨by kernel_rfl,adW hx⟩
 ·cases h; exact⟨by kernel_rfl,AW hx⟩
 ·cases h; exact⟨by kernel_rfl,GF hx⟩
 ·cases h; exact⟨by kernel_rfl,GH hx⟩
 ·cases h; exact⟨by kernel_rfl,GG hx⟩
 ·cases h; exact⟨by kernel_rfl,GD hx⟩
 ·cases h; exact⟨by kernel_rfl,Dm hx⟩
 ·cases h; exact⟨by kernel_rfl,Dn hx⟩
 ·cases h; exact⟨by kernel_rfl,Wm hx⟩
 ·cases h; exact⟨by kernel_rfl,GN hx⟩
 ·cases h; exact⟨by kernel_rfl,GM hx⟩
 ·cases h; exact⟨by kernel_rfl,Dy hx⟩
 ·cases h; exact⟨by kernel_rfl,Dz hx⟩
 ·cases h; exact⟨by kernel_rfl,Hf hx⟩
 ·cases h; exact⟨by kernel_rfl,Hg hx⟩
 ·cases h; exact⟨by kernel_rfl,Hc hx⟩
 ·cases h; exact⟨by kernel_rfl,He hx⟩
 ·cases h
def Z1:oC Tryz.prog aH:=⟨EX,FR⟩
abbrev Bytes:=List UInt8
structure ct where
 name:Bytes
 ino:Int
 af:Int
 deriving DecidableEq,Inhabited
structure Node where
 ino:Int
 kind:Int
 bE:Int
 data:Bytes
 av:List ct
 up:Int
 deriving DecidableEq,Inhabited
structure Tree where
 nodes:List Node
 next:Int
 af:Int
 deriving DecidableEq,Inhabited
def Node.zero:Node:=⟨0,0,0,[],[],0⟩
def bU(e:ct):List ae:=[.str e.name,.int .i64 e.ino,.int .i64 e.af]
def cn(e:ct):ae := .agg (bU e)
abbrev cT(l:List ct):ae := .slice .sh (l.map cn)
abbrev bc(d:Bytes):ae := .slice .sh (d.map hZ)
def an(n:Node):List ae:=[.int .i64 n.ino,.int .i64 n.kind,.int .i64 n.bE,bc n.data,cT n.av,.int .i64 n.up]
def aF(n:Node):ae := .agg (an n)
abbrev au(l:List Node):ae := .slice .sh (l.map aF)
def ak(t:Tree):List ae:=[au t.nodes,.int .i64 t.next,.int .i64 t.af]
def aA(t:Tree):ae := .agg (ak t)
structure Small(t:Tree):Prop where
 nodes:t.nodes.length<=100000
 av:∀n,n∈t.nodes->n.av.length<=100000
 data:∀n,n∈t.nodes->n.data.length<=100000
def AO(n:Node):(aF n).cells=an n:=rfl
def Dl(e:ct):(cn e).cells=bU e:=rfl
def D1(n:Node):(an n).length=6:=rfl
def Ho(e:ct):(bU e).length=3:=rfl
def yV(l:List Node):wid (l.map aF) 6=True:=by
 simp only[eq_iff_iff,iff_true];intro x hx;obtain⟨n,_,rfl⟩:=List.mem_map.1 hx;rfl
def CJ(l:List ct):wid (l.map cn) 3=True:=by
 simp only[eq_iff_iff,iff_true];intro x hx;obtain⟨n,_,rfl⟩:=List.mem_map.1 hx;rfl
def jO(l:Bytes):wid (l.map hZ) 1=True:=by
 simp only[eq_iff_iff,iff_true];intro x hx;obtain⟨n,_,rfl⟩:=List.mem_map.1 hx;rfl
structure Step where
 kind:Nat
 a:Nat
 b:Nat
 n:Nat
 m:Nat
 data:Bytes
set_option linter.defProp false in
def EVN:=And.intro @AO (And.intro @Dl (And.intro @D1 (And.intro @Ho (And.intro @yV (And.intro @CJ @jO)))))
set_option linter.defProp false in
def EN:=And.intro EVN EV
section
attribute [local irreducible] bS cz fu gK bG kr ag ar aQ aG
def bT{α:Type}{l:List α}{pre r:List α}{n:α}(h:l=pre++n::r):l[pre.length]?=some n:=by rw[h]; simp
def cv{α:Type}{l:List α}{pre r:List α}{n:α}(h:l=pre++n::r):((pre.length:Int)<(l.length:Int))=True:=by rw[h]; simp; omega
def cQ{α:Type}{l:List α}{pre:List α}(h:l=pre++[]):((pre.length:Int)<(l.length:Int))=False:=by rw[h]; simp
def Qg{α:Type}{pre:List α}{n:α}:((pre.length:Int)+1)=((pre++[n]).length:Int):=by simp
def ny{T:Type}(l:List T)(x:T)(h:(l.length:Int)+1<9223372036854775808:=by omega):IntKind.i64.wrap ((l.length:Int)+1)=((l++[x]).length:Int):=by rw[cL (by omega) (by omega)]; exact Qg
def find(nodes:List Node)(ino:Int):Option Node:=nodes.find? fun n=>n.ino==ino
def cK(nodes:List Node)(ino:Int):Node×Int:=match find nodes ino with
 |none=>(Node.zero,70)
 |some n=>if n.kind=2 then (n,0) else (Node.zero,73)
def cB(l:List ct)(s:Bytes):Option ct:=l.find? fun e=>e.name==s
def kh(b:UInt8):Bool := !(decide ((b.toNat:Int)<32)||((b.toNat:Int)==47))
def cr(s:Bytes):Bool := !(decide ((s.length:Int)<1)||(decide ((s.length:Int)>32)||(s==[46]||s==[46,46])))&&s.all kh
def bM(nodes:List Node)(ino:Int)(s:Bytes):Int×Int :=
 if (cK nodes ino).2≠0 then (0,(cK nodes ino).2) else if cr s=false then (0,60) else match cB (cK nodes ino).1.av s with
  |none=>(0,70)
  |some e=>(e.ino,0)
def bh{nodes:List Node}{ino:Int}{n:Node}(h:find nodes ino=some n):n∈nodes/\n.ino=ino:=by
 unfold find at h;exact⟨List.mem_of_find?_eq_some h,by simpa using List.find?_some h⟩
def kU{t:Tree}(hs:Small t)(ino:Int):(cK t.nodes ino).1.av.length<=100000:=by
 unfold cK;split
 ·simp[Node.zero]
 ·rename_i n hn;split
  ·exact hs.av n (bh hn).1
  ·simp[Node.zero]
def zT:List ae:=[.slice .c0 [],.int .i64 0,.int .i64 0]
def gi(n:Node):List Node->List Node->Bool->List Node×Bool
 | [],out,done=>(out,done)
 |m::r,out,done =>
  gi n r ((if (!done&&decide (m.ino>=n.ino))=true then out++[n] else out)++(if m.ino=n.ino then [] else [m])) (done||decide (m.ino>=n.ino))
def bJ(nodes:List Node)(n:Node):List Node:=(gi n nodes [] false).1++(if (gi n nodes [] false).2=true then [] else [n])
def db(nodes:List Node)(ino:Int):List Node:=nodes.filter fun n=>n.ino != ino
def dB(l:List ct)(s:Bytes):List ct:=l.filter fun e=>e.name != s
def bm(nodes:List Node)(ino:Int)(s:Bytes):List Node:=bJ nodes { (find nodes ino).getD Node.zero with av:=dB ((find nodes ino).getD Node.zero).av s }
abbrev fO(n:Int):Int:=IntKind.i64.wrap n
def US(a b:Bytes):Bool := !(strLt a b||a==b)
def nb(e:ct):List ct->List ct->Bool->List ct×Bool
 | [],out,done=>(out,done)
 |m::r,out,done=>nb e r ((if (!done&&US m.name e.name)=true then out++[e] else out)++[m]) (done||US m.name e.name)
def ra(l:List ct)(e:ct):List ct:=(nb e l [] false).1++(if (nb e l [] false).2=true then [] else [e])
def cW(t:Tree)(ino:Int)(s:Bytes)(of:Int):Tree :=
 ⟨bJ t.nodes { (find t.nodes ino).getD Node.zero with av:=ra ((find t.nodes ino).getD Node.zero).av ⟨s,of,t.af⟩ },t.next,fO (t.af+1)⟩
def H2(nodes:List Node)(ino:Int):Int:=((find nodes ino).getD Node.zero).up
def nI(nodes:List Node):Nat->Int->Nat->Nat
 |0,_,d=>d
 |m+1,ino,d=>if ino=1 then d else nI nodes m (H2 nodes ino) (d+1)
def gU(nodes:List Node)(ino:Int):Nat:=nI nodes 201 ino 0
def fD(nodes:List Node)(of:Int):Nat->Int->Bool
 |0,_=>false
 |m+1,ino=>if ino=of then true else if ino=1 then false else fD nodes of m (H2 nodes ino)
def ei(nodes:List Node)(ino of:Int):Bool:=fD nodes of (nodes.length+1) ino
structure Sz(b:Nat)(t:Tree):Prop where
 nodes:t.nodes.length<=b
 av:∀n,n∈t.nodes->n.av.length<=b
 data:∀n,n∈t.nodes->n.data.length<=100000
def Sz.small{b:Nat}{t:Tree}(h:Sz b t)(hb:b<=100000):Small t:=⟨Nat.le_trans h.nodes hb,fun n hn=>Nat.le_trans (h.av n hn) hb,h.data⟩
def yW(n:Node):∀(l out:List Node)(d:Bool),(gi n l out d).1.length+(if (gi n l out d).2=true then 0 else 1)<=out.length+l.length+(if d=true then 0 else 1)
 | [],out,d=>by simp only[gi,List.length_nil,Nat.add_zero]; exact Nat.le_refl _
 |m::r,out,d=>by
  rw[gi];refine Nat.le_trans (yW n r _ _) ?_;cases d<;>by_cases h1:n.ino<=m.ino<;>by_cases h2:m.ino=n.ino<;>simp[h1,h2]<;>omega
def yX(n:Node):∀(l out:List Node)(d:Bool)(x:Node),x∈(gi n l out d).1->x=n\/x∈out\/x∈l
 | [],out,d,x,h=>by simp[gi] at h; exact .inr (.inl h)
 |m::r,out,d,x,h=>by
  rw[gi] at h;rcases yX n r _ _ x h with h|h|h
  ·exact .inl h
  ·rcases List.mem_append.1 h with h|h
   ·split at h
    ·rcases List.mem_append.1 h with h|h
     ·exact .inr (.inl h)
     ·exact .inl (by simpa using h)
    ·exact .inr (.inl h)
   ·split at h
    ·cases h
    ·exact .inr (.inr (by simp at h; simp[h]))
  ·exact .inr (.inr (List.mem_cons_of_mem _ h))
def yY(nodes:List Node)(n:Node):(bJ nodes n).length<=nodes.length+1:=by
 have:=yW n nodes [] false;unfold bJ;split at this<;>simp_all
def yZ{nodes:List Node}{n x:Node}(h:x∈bJ nodes n):x=n\/x∈nodes:=by
 unfold bJ at h;rcases List.mem_append.1 h with h|h
 ·rcases yX n nodes [] false x h with h|h|h
  ·exact .inl h
  ·cases h
  ·exact .inr h
 ·split at h
  ·cases h
  ·exact .inl (by simpa using h)
def Sz.with{b:Nat}{t:Tree}(h:Sz b t){n:Node}(h1:n.av.length<=b+1)(h2:n.data.length<=100000)(next af:Int):Sz (b+1) ⟨bJ t.nodes n,next,af⟩ :=
 ⟨Nat.le_trans (yY _ _) (by have:=h.nodes; simp; omega),fun x hx=>by
  rcases yZ hx with rfl|hx
  ·exact h1
  ·exact Nat.le_succ_of_le (h.av x hx),fun x hx=>by
  rcases yZ hx with rfl|hx
  ·exact h2
  ·exact h.data x hx⟩
def Sz.up{b c:Nat}{t:Tree}(h:Sz b t)(hbc:b<=c):Sz c t:=⟨Nat.le_trans h.nodes hbc,fun n hn=>Nat.le_trans (h.av n hn) hbc,h.data⟩
def Sz.find{b:Nat}{t:Tree}(h:Sz b t)(ino:Int):((find t.nodes ino).getD Node.zero).av.length<=b/\((find t.nodes ino).getD Node.zero).data.length<=100000:=by
 cases hf:Go.Proofs.YtahkjijkflobhaaGreatDoor.find t.nodes ino with
 |none=>simp[Node.zero]
 |some n=>exact⟨h.av n (bh hf).1,h.data n (bh hf).1⟩
def tv(l:List ct)(s:Bytes):(dB l s).length<=l.length:=List.length_filter_le _ _
def Sz.left{b:Nat}{t:Tree}(h:Sz b t)(ino:Int)(s:Bytes)(next af:Int):Sz (b+1) ⟨bm t.nodes ino s,next,af⟩ :=
 h.with (n:={ (Go.Proofs.YtahkjijkflobhaaGreatDoor.find t.nodes ino).getD Node.zero with av:=dB ((Go.Proofs.YtahkjijkflobhaaGreatDoor.find t.nodes ino).getD Node.zero).av s }) (Nat.le_trans (tv _ _) (Nat.le_succ_of_le (h.find ino).1)) (h.find ino).2 next af
def Sz.mo{b:Nat}{t:Tree}(h:Sz b t)(ino:Int)(next af:Int):Sz b ⟨db t.nodes ino,next,af⟩ :=
 ⟨Nat.le_trans (List.length_filter_le _ _) h.nodes,fun x hx=>h.av x ((List.mem_filter.1 hx).1),fun x hx=>h.data x ((List.mem_filter.1 hx).1)⟩
def wm(t:Tree)(n:Node):Bool:=decide ((64:Int)<=n.av.length)||(decide ((12:Int)<=gU t.nodes n.ino)||decide ((1099511627776:Int)<=t.af))
def gz(t:Tree)(ino:Int)(s:Bytes):Int :=
 if (cK t.nodes ino).2≠0 then (cK t.nodes ino).2 else if cr s=false then 60 else if (cB (cK t.nodes ino).1.av s).isSome=true then 71 else if wm t (cK t.nodes ino).1=true then 76 else 0
def kf(t:Tree)(ino:Int)(s:Bytes)(kind:Int):Tree×Int×Int :=
 if (kind != 1&&kind != 2)=true then (t,0,1) else if (gz t ino s != 0)=true then (t,0,gz t ino s) else
 if (decide ((200:Int)<=t.nodes.length)||decide ((1099511627776:Int)<=t.next))=true then (t,0,76) else
 (cW ⟨bJ t.nodes ⟨t.next,kind,1,[],[],if (kind==2)=true then ino else 0⟩,fO (t.next+1),t.af⟩ ino s t.next,t.next,0)
abbrev aD(nodes:List Node)(ino:Int):Node:=(find nodes ino).getD Node.zero
def wL(t:Tree)(ino to:Int)(s:Bytes):Tree×Int :=
 if (!(find t.nodes ino).isSome||((aD t.nodes ino).kind==1&&(aD t.nodes ino).bE==0))=true then (t,70) else if ((aD t.nodes ino).kind==2)=true then (t,72) else
 if (gz t to s != 0)=true then (t,gz t to s) else
 (cW ⟨bJ t.nodes { aD t.nodes ino with bE:=fO ((aD t.nodes ino).bE+1) },t.next,t.af⟩ to s ino,0)
def bV(nodes:List Node)(ino:Int):List Node :=
 if ((aD nodes ino).kind==2)=true then db nodes ino else bJ nodes { aD nodes ino with bE:=fO ((aD nodes ino).bE-1) }
def vo(t:Tree)(ino:Int)(s:Bytes):Tree×Int×Int :=
 if ((bM t.nodes ino s).2 != 0)=true then (t,0,(bM t.nodes ino s).2) else if decide ((0:Int)<(aD t.nodes (bM t.nodes ino s).1).av.length)=true then (t,0,74) else
 (⟨bV (bm t.nodes ino s) (bM t.nodes ino s).1,t.next,t.af⟩,(bM t.nodes ino s).1,0)
def mw(nodes:List Node)(kind:Int)(y:Int):Int :=
 if (!(find nodes y).isSome)=true then 0 else if (kind==2&&(aD nodes y).kind != 2)=true then 73 else if (kind != 2&&(aD nodes y).kind==2)=true then 72 else if decide ((0:Int)<(aD nodes y).av.length)=true then 74 else 0
def j9(t:Tree)(ino:Int)(data:Bytes):Tree×Int :=
 if (!(find t.nodes ino).isSome)=true then (t,70) else if ((aD t.nodes ino).kind==2)=true then (t,72) else if decide ((4096:Int)<data.length)=true then (t,2) else
 (⟨bJ t.nodes { aD t.nodes ino with data:=data },t.next,t.af⟩,0)
def gD(t:Tree)(ino:Int):Tree×Int :=
 if (!(find t.nodes ino).isSome)=true then (t,70) else if ((aD t.nodes ino).kind==2)=true then (t,72) else if decide ((0:Int)<(aD t.nodes ino).bE)=true then (t,71) else
 (⟨db t.nodes ino,t.next,t.af⟩,0)
def ov:Tree:=⟨[⟨1,2,0,[],[],1⟩],2,1⟩
def jZ(nodes:List Node)(ino at' d:Int)(n:Node)(most:Int):Int :=
 if (n.kind==2&&ei nodes n.ino ino)=true then
  (if (if decide ((0:Int)<n.av.length)=true then fO (fO (fO (at'+gU nodes n.ino)-d)+1) else fO (fO (at'+gU nodes n.ino)-d))>most
   then (if decide ((0:Int)<n.av.length)=true then fO (fO (fO (at'+gU nodes n.ino)-d)+1) else fO (fO (at'+gU nodes n.ino)-d)) else most)
 else most
def nK(nodes:List Node)(ino at' d:Int):List Node->Int->Int
 | [],most=>most
 |n::r,most=>nK nodes ino at' d r (jZ nodes ino at' d n most)
def uL(nodes:List Node)(ino at':Int):Int:=nK nodes ino at' (gU nodes ino) nodes 0
def dr(l:List ct)(s:Bytes):Int:=match cB l s with
 |none=>0
 |some e=>e.ino
def manyN(t:Tree)(dZ to:Int)(av:List ct)(kind y ino:Int):Bool :=
 ((y==0&&to != dZ)&&decide ((64:Int)<=av.length))||(decide ((12:Int)<=gU t.nodes to)||((kind==2&&decide ((12:Int)<uL t.nodes ino (fO (gU t.nodes to+1))))||decide ((1099511627776:Int)<=t.af)))
def lB(t:Tree)(dZ:Int)(s:Bytes)(to:Int)(nm:Bytes)(ino y:Int):Tree :=
 cW ⟨if ((aD t.nodes ino).kind==2)=true then
   bJ (if (y != 0)=true then bV (bm (bm t.nodes dZ s) to nm) y else bm t.nodes dZ s) { aD t.nodes ino with up:=to }
  else if (y != 0)=true then bV (bm (bm t.nodes dZ s) to nm) y else bm t.nodes dZ s,t.next,t.af⟩ to nm ino
def pJ(t:Tree)(dZ:Int)(s:Bytes)(to:Int)(nm:Bytes):Tree×Int×Int :=
 if ((bM t.nodes dZ s).2 != 0)=true then (t,0,(bM t.nodes dZ s).2) else
 if ((cK t.nodes to).2 != 0)=true then (t,0,(cK t.nodes to).2) else
 if (!cr nm)=true then (t,0,60) else
 if (dr (cK t.nodes to).1.av nm==(bM t.nodes dZ s).1)=true then (t,0,0) else
 if ((aD t.nodes (bM t.nodes dZ s).1).kind==2&&ei t.nodes to (bM t.nodes dZ s).1)=true then (t,0,75) else
 if (mw t.nodes (aD t.nodes (bM t.nodes dZ s).1).kind (dr (cK t.nodes to).1.av nm) != 0)=true then (t,0,mw t.nodes (aD t.nodes (bM t.nodes dZ s).1).kind (dr (cK t.nodes to).1.av nm)) else
 if manyN t dZ to (cK t.nodes to).1.av (aD t.nodes (bM t.nodes dZ s).1).kind (dr (cK t.nodes to).1.av nm) (bM t.nodes dZ s).1=true then (t,0,76) else
 (lB t dZ s to nm (bM t.nodes dZ s).1 (dr (cK t.nodes to).1.av nm),dr (cK t.nodes to).1.av nm,0)
def Sz.unnamed{b:Nat}{t:Tree}(h:Sz b t)(ino next af:Int):Sz (b+1) ⟨bV t.nodes ino,next,af⟩:=by
 unfold bV;split
 ·exact(h.mo ino next af).up (by omega)
 ·exact h.with (n:={ aD t.nodes ino with bE:=fO ((aD t.nodes ino).bE-1) }) (Nat.le_succ_of_le (h.find ino).1) (h.find ino).2 next af
structure Step.Ok(s:Step):Prop where
 kind:s.kind<256
 a:s.a<256
 b:s.b<256
 n:s.n<256
 m:s.m<256
 data:s.data.length<=100000
def nameOf(n:Nat):Bytes:=match n % 6 with
 |0=>[97]
 |1=>[98]
 |2=>[99]
 |3=>[100]
 |4=>[101]
 |_=>[46,46]
def oa(t:Tree)(n:Nat):Int:=match t.nodes[n % (t.nodes.length+1)]? with
 |some m=>m.ino
 |none=>t.next
def Ux(t:Tree)(s:Step):Tree×Int×Int :=
 if (((s.kind % 8:Nat):Int)==0||((s.kind % 8:Nat):Int)==1)=true then kf t (oa t s.a) (nameOf s.n) (((s.m % 2:Nat):Int)+1) else
 if (((s.kind % 8:Nat):Int)==2)=true then ((wL t (oa t s.b) (oa t s.a) (nameOf s.n)).1,0,(wL t (oa t s.b) (oa t s.a) (nameOf s.n)).2) else
 if (((s.kind % 8:Nat):Int)==3)=true then vo t (oa t s.a) (nameOf s.n) else
 if (((s.kind % 8:Nat):Int)==4||((s.kind % 8:Nat):Int)==5)=true then pJ t (oa t s.a) (nameOf s.n) (oa t s.b) (nameOf s.m) else
 if (((s.kind % 8:Nat):Int)==6)=true then ((j9 t (oa t s.a) s.data).1,0,(j9 t (oa t s.a) s.data).2) else
 ((gD t (oa t s.a)).1,0,(gD t (oa t s.a)).2)
def BJ(e:ct):∀(l out:List ct)(d:Bool),(nb e l out d).1.length+(if (nb e l out d).2=true then 0 else 1)<=out.length+l.length+(if d=true then 0 else 1)
 | [],out,d=>by simp only[nb,List.length_nil,Nat.add_zero]; exact Nat.le_refl _
 |m::r,out,d=>by
  rw[nb];refine Nat.le_trans (BJ e r _ _) ?_;cases d<;>cases h1:US m.name e.name<;>simp<;>omega
def Lu(l:List ct)(e:ct):(ra l e).length<=l.length+1:=by
 have:=BJ e l [] false;unfold ra;split at this<;>simp_all
def Sz.fR{b:Nat}{t:Tree}(h:Sz b t)(ino:Int)(s:Bytes)(of:Int):Sz (b+1) (cW t ino s of) :=
 h.with (n:={ aD t.nodes ino with av:=ra (aD t.nodes ino).av ⟨s,of,t.af⟩ }) (Nat.le_trans (Lu _ _) (Nat.succ_le_succ (h.find ino).1)) (h.find ino).2 t.next (fO (t.af+1))
def Sz.add{b:Nat}{t:Tree}(h:Sz b t)(ino:Int)(s:Bytes)(kind:Int):Sz (b+5) (kf t ino s kind).1:=by
 unfold kf;split
 ·exact h.up (by omega)
 ·split
  ·exact h.up (by omega)
  ·split
   ·exact h.up (by omega)
   ·exact((h.with (n:=⟨t.next,kind,1,[],[],if (kind==2)=true then ino else 0⟩) (by simp) (by simp) (fO (t.next+1)) t.af).fR ino s t.next).up (by omega)
def Sz.ln{b:Nat}{t:Tree}(h:Sz b t)(ino to:Int)(s:Bytes):Sz (b+5) (wL t ino to s).1:=by
 unfold wL;split
 ·exact h.up (by omega)
 ·split
  ·exact h.up (by omega)
  ·split
   ·exact h.up (by omega)
   ·exact((h.with (n:={ aD t.nodes ino with bE:=fO ((aD t.nodes ino).bE+1) }) (Nat.le_succ_of_le (h.find ino).1) (h.find ino).2 t.next t.af).fR to s ino).up (by omega)
def Sz.un{b:Nat}{t:Tree}(h:Sz b t)(ino:Int)(s:Bytes):Sz (b+5) (vo t ino s).1:=by
 unfold vo;split
 ·exact h.up (by omega)
 ·split
  ·exact h.up (by omega)
  ·exact((h.left ino s t.next t.af).unnamed _ t.next t.af).up (by omega)
def Sz.put{b:Nat}{t:Tree}(h:Sz b t)(ino:Int)(data:Bytes)(hd:data.length<=100000):Sz (b+5) (j9 t ino data).1:=by
 unfold j9;split
 ·exact h.up (by omega)
 ·split
  ·exact h.up (by omega)
  ·split
   ·exact h.up (by omega)
   ·exact(h.with (n:={ aD t.nodes ino with data:=data }) (Nat.le_succ_of_le (h.find ino).1) hd t.next t.af).up (by omega)
def Sz.free{b:Nat}{t:Tree}(h:Sz b t)(ino:Int):Sz (b+5) (gD t ino).1:=by
 unfold gD;split
 ·exact h.up (by omega)
 ·split
  ·exact h.up (by omega)
  ·split
   ·exact h.up (by omega)
   ·exact(h.mo ino t.next t.af).up (by omega)
def Sz.move{b:Nat}{t:Tree}(h:Sz b t)(dZ:Int)(s:Bytes)(to:Int)(nm:Bytes)(ino y:Int):Sz (b+5) (lB t dZ s to nm ino y):=by
 unfold lB;have z1:=h.left dZ s t.next t.af
 have z3:=(z1.left to nm t.next t.af).unnamed y t.next t.af
 have z:Sz (b+3) ⟨if (y != 0)=true then bV (bm (bm t.nodes dZ s) to nm) y else bm t.nodes dZ s,t.next,t.af⟩:=by
  split
  ·exact z3
  ·exact z1.up (by omega)
 split
 ·exact((z.with (n:={ aD t.nodes ino with up:=to }) (Nat.le_trans (h.find ino).1 (by omega)) (h.find ino).2 t.next t.af).fR to nm ino).up (by omega)
 ·exact(z.fR to nm ino).up (by omega)
def Sz.mv{b:Nat}{t:Tree}(h:Sz b t)(dZ:Int)(s:Bytes)(to:Int)(nm:Bytes):Sz (b+5) (pJ t dZ s to nm).1:=by
 unfold pJ
 repeat' split
 all_goals first
  |exact h.up (by omega)
  |exact h.move dZ s to nm _ _
def Sz.done{b:Nat}{t:Tree}(h:Sz b t)(s:Step)(hs:s.Ok):Sz (b+5) (Ux t s).1:=by
 unfold Ux
 repeat' split
 all_goals first
  |exact h.add _ _ _
  |exact h.ln _ _ _
  |exact h.un _ _
  |exact h.mv _ _ _ _
  |exact h.put _ _ hs.data
  |exact h.free _
def Sz.ov:Sz 1 ov:=⟨by simp[Go.Proofs.YtahkjijkflobhaaGreatDoor.ov],fun n hn=>by simp[Go.Proofs.YtahkjijkflobhaaGreatDoor.ov] at hn; subst hn; simp,fun n hn=>by simp[Go.Proofs.YtahkjijkflobhaaGreatDoor.ov] at hn; subst hn; simp⟩
def tkN(n:Node):List.take 6 (an n)=an n:=rfl
def shN(n:Node):List.map ae.shut (an n)=an n:=rfl
def Z3(n:ct):List.take 3 (bU n)=bU n:=rfl
def ZX(n:ct):List.map ae.shut (bU n)=bU n:=rfl
def akp(a:Int):ag aH 239 [.int .i64 a] []=some (.bool false,[]):=by
 refine ai ?_;simp only[KT,aik,bne_self_eq_false,EN,simprocAttr]
def alF a:=cP (akp a)
def jf(a b:Int):Int:=if decide (a<b)=true then -1 else if decide (b<a)=true then 1 else 0
def ajt(a b:Int):ag aH 154 [.int .i64 a,.int .i64 b] []=some (.int .i64 (jf a b),[]):=by
 refine ai ?_;simp only[JX,aav,alF,EN,simprocAttr]
 repeat' ((first|refine aB (fun hb=>?_) (fun hb=>?_)|refine aJ (fun hb=>?_) (fun hb=>?_)|refine bp (fun hb=>?_) (fun hb=>?_))<;>simp only[hb,EN,aav,simprocAttr])
 all_goals (simp_all only[jf,iw,↓reduceIte,reduceCtorEq,bne_self_eq_false]; done)
def RI a b:=cP (ajt a b)
def pA(a b:Int):(jf a b<0)=(a<b):=by
 unfold jf
 by_cases h1:a<b
 ·simp[h1]
 ·by_cases h2:b<a<;>simp[h1,h2]
def zn(a b:Int):(jf a b==0)=(a==b):=by
 unfold jf
 by_cases h1:a<b
 ·have:¬a=b:=by omega
  simp[h1,this]
 ·by_cases h2:b<a
  ·have:¬a=b:=by omega
   simp[h1,h2,this]
  ·have:a=b:=by omega
   simp[this]
def akL(n:Node)(ino:Int):ag aH 286 [aF n,.int .i64 ino] []=some (.int .i64 (jf n.ino ino),[]):=by
 refine ai ?_;simp only[La,ais,aF,an,RI,EN,simprocAttr]
def aeu(n:Node)(ino:Int)(M:aj):ar (ag aH) 286 [.agg (an n),.int .i64 ino] M=some (.int .i64 (jf n.ino ino),M):=cO (akL n ino) M
structure Gl(nodes:List Node)(ino:Int)(b:Nat):Prop where
 le:b<=nodes.length
 lt:∀h n,nodes[h]?=some n->(n.ino<ino↔h<b)
def wP(i j:Nat)(hj:j<=100000)(hi:i<=j):IntKind.i64.wrap ((i:Int)+(j:Int))=((i+j:Nat):Int)/\IntKind.u64.wrap ((i+j:Nat):Int)=((i+j:Nat):Int) /\
  (((i+j:Nat):Int)).fdiv (2 ^ min 1 IntKind.u64.bits)=(((i+j) / 2:Nat):Int)/\IntKind.i64.wrap (((i+j) / 2:Nat):Int)=(((i+j) / 2:Nat):Int)/\IntKind.i64.wrap ((((i+j) / 2:Nat):Int)+1)=(((i+j) / 2+1:Nat):Int):=by
 refine⟨?_,?_,?_,?_,?_⟩
 ·rw[cL (by omega) (by omega)]; rfl
 ·have:IntKind.u64.wrap ((i+j:Nat):Int)=((i+j:Nat):Int) % 18446744073709551616:=by simp[IntKind.wrap,IntKind.bits,IntKind.signed]
  rw[this]; omega
 ·have:(2:Int) ^ min 1 IntKind.u64.bits=2:=by decide
  rw[this,Int.fdiv_eq_ediv_of_nonneg _ (by omega)]; omega
 ·exact cL (by omega) (by omega)
 ·rw[cL (by omega) (by omega)]; rfl
def SR{nodes:List Node}{ino:Int}{b:Nat}(hb:Gl nodes ino b)(hn:nodes.length<=100000){k:List K}{r:Option (ae×aj)}
  (hx:∀v q,kr (ag aH) [.tmp 6,.tmp 7] 0 k ⟨.exit 0,[(0,au nodes),(1,.int .i64 ino),(2,.func 286 []),(8,.int .i64 nodes.length),(9,.int .i64 b),(10,v),(17,q)],[]⟩=r) :
  ∀(f i j:Nat),j-i<=f->i<=b->b<=j->j<=nodes.length->bS (ag aH) [.tmp 6,.tmp 7] 0 k (.loop [0,1,2,8,9,10] FC) [(0,au nodes),(1,.int .i64 ino),(2,.func 286 []),(8,.int .i64 nodes.length),(9,.int .i64 i),(10,.int .i64 j)] []=r:=by
 intro f;induction f with
 |zero =>
  intro i j h1 h2 h3 h4;obtain rfl:i=b:=by omega
  rw[aC];have hlt:((i:Int)<(j:Int))=False:=by simp; omega
  simp only[pU,hlt,EN,simprocAttr];exact hx _ _
 |succ f ih =>
  intro i j h1 h2 h3 h4;rw[aC]
  by_cases hij:i<j
  ·have hlt:((i:Int)<(j:Int))=True:=by simp; omega
   obtain⟨m1,m2,m3,m4,m5⟩:=wP i j (by omega) (by omega)
   have hmid:(i+j) / 2<nodes.length:=by omega
   have hx:=List.getElem?_eq_getElem hmid;have hl:=hb.lt _ _ hx;simp only[pU,hlt,m1,m2,m3,m4,hx,aeu,pA,tkN,shN,EN,simprocAttr];refine aB (fun hq=>?_) (fun hq=>?_)
   ·have hq:nodes[(i+j) / 2].ino<ino:=by simpa using hq
    simp only[pU,m5,EN,simprocAttr];exact ih ((i+j) / 2+1) j (by omega) (hl.1 hq) h3 h4
   ·have hq:¬nodes[(i+j) / 2].ino<ino:=by simpa using hq
    simp only[pU,EN,simprocAttr];exact ih i ((i+j) / 2) (by omega) h2 (Nat.not_lt.1 fun h=>hq (hl.2 h)) (by omega)
  ·obtain rfl:i=b:=by omega
   have hlt:((i:Int)<(j:Int))=False:=by simp; omega
   simp only[pU,hlt,EN,simprocAttr];exact hx _ _
def zD(nodes:List Node)(ino:Int)(b:Nat):Bool:=match nodes[b]? with
 |some n=>n.ino==ino
 |none=>false
def ajv(nodes:List Node)(ino:Int)(b:Nat)(hb:Gl nodes ino b)(hn:nodes.length<=100000):ag aH 160 [au nodes,.int .i64 ino,.func 286 []] []=some (.tuple [.int .i64 b,.bool (zD nodes ino b)],[]):=by
 refine ai ?_;simp only[Fc,pU,EN,simprocAttr];refine SR hb hn (fun v q=>?_) nodes.length 0 nodes.length (by omega) (by omega) hb.le (by omega)
 unfold zD
 by_cases hlt:b<nodes.length
 ·have hx:=List.getElem?_eq_getElem hlt;have h1:((b:Int)<(nodes.length:Int))=True:=by simp; omega
  simp only[pU,hx,h1,aeu,zn,tkN,shN,EN,simprocAttr]
 ·have hx:nodes[b]?=none:=List.getElem?_eq_none (by omega)
  have h1:((b:Int)<(nodes.length:Int))=False:=by simp; omega
  simp only[pU,hx,h1,EN,simprocAttr]
def als(nodes:List Node)(ino:Int)(b:Nat)(hb:Gl nodes ino b)(hn:nodes.length<=100000)(M:aj):ar (ag aH) 160 [au nodes,.int .i64 ino,.func 286 []] M=some (.tuple [.int .i64 b,.bool (zD nodes ino b)],M) :=
 cO (ajv nodes ino b hb hn) M
def gr(nodes:List Node):Prop:=nodes.Pairwise fun a b=>a.ino<b.ino
def eO(nodes:List Node)(ino:Int):Nat:=(nodes.takeWhile fun n=>decide (n.ino<ino)).length
def mg{nodes:List Node}(h:gr nodes)(ino:Int):Gl nodes ino (eO nodes ino):=by
 unfold eO;induction nodes with
 |nil=>exact⟨by simp,fun h n hn=>by simp at hn⟩
 |cons a r ih =>
  obtain⟨h1,h2⟩:=List.pairwise_cons.1 h;obtain⟨i1,i2⟩:=ih h2
  by_cases ha:a.ino<ino
  ·rw[List.takeWhile_cons,if_pos (by simpa using ha)]
   refine⟨by simpa using i1,fun k n hn=>?_⟩
   cases k with
   |zero=>simp at hn; subst hn; simp[ha]
   |succ k=>rw[i2 k n (by simpa using hn)]; simp
  ·rw[List.takeWhile_cons,if_neg (by simpa using ha)]
   refine⟨by simp,fun k n hn=>?_⟩
   simp only[List.length_nil,Nat.not_lt_zero,iff_false];cases k with
   |zero=>simp at hn; subst hn; exact ha
   |succ k =>
    have:=h1 n (List.mem_of_getElem? (by simpa using hn))
    omega
def ky{nodes:List Node}(h:gr nodes)(ino:Int):(zD nodes ino (eO nodes ino)=true/\∃n,nodes[eO nodes ino]?=some n/\find nodes ino=some n/\n.ino=ino)\/(zD nodes ino (eO nodes ino)=false/\find nodes ino=none):=by
 obtain⟨l1,l2⟩:=mg h ino;cases hf:find nodes ino with
 |some n =>
  left;obtain⟨hm,he⟩:=bh hf;obtain⟨k,hk⟩:=List.getElem?_of_mem hm;have hkb:¬k<eO nodes ino:=fun hc=>by have:=(l2 k n hk).2 hc; omega
  have hb:eO nodes ino<nodes.length:=by have:=(List.getElem?_eq_some_iff.1 hk).1; omega
  have hx:=List.getElem?_eq_getElem hb;have hnl:¬nodes[eO nodes ino].ino<ino:=fun hc=>Nat.lt_irrefl _ ((l2 _ _ hx).1 hc)
  have hke:k=eO nodes ino:=by
   rcases Nat.lt_or_ge (eO nodes ino) k with hlt|hge
   ·have hkl:=(List.getElem?_eq_some_iff.1 hk).1;have h3:=List.pairwise_iff_getElem.1 h _ _ hb hkl hlt;have h4:nodes[k]=n:=by rw[List.getElem?_eq_getElem hkl] at hk; injection hk
    rw[h4] at h3;omega
   ·omega
  subst hke;exact⟨by unfold zD; rw[hk]; simp[he],n,hk,rfl,he⟩
 |none =>
  right;refine⟨?_,rfl⟩;unfold zD;split
  ·rename_i n hn;have:=List.find?_eq_none.1 hf n (List.mem_of_getElem? hn);simpa using this
  ·rfl
def gN{M:aj}{p:Nat}{b:aM}(h:nth M p=some b):dA M p b=M:=by
 rw[cf] at h; rw[cG];apply List.ext_getElem?;intro i
 by_cases e:p=i
 ·subst e; rw[br (aq h),h]
 ·rw[aU e]
def akq(nodes:List Node)(next af ino:Int)(h:gr nodes)(hn:nodes.length<=100000):ag aH 243 [.ptr 0 0,.int .i64 ino] [.cells [au nodes,.int .i64 next,.int .i64 af]] =
  some (.tuple [.int .i64 (eO nodes ino),.bool (zD nodes ino (eO nodes ino))],[.cells [au nodes,.int .i64 next,.int .i64 af]]):=by
 refine ai ?_;have hk:=als nodes ino _ (mg h ino) hn;simp only[KU,ail,hk,EN,simprocAttr]
def Xp(nodes:List Node)(next af ino:Int)(h:gr nodes)(hn:nodes.length<=100000)(p:Nat)(M:aj)(hM:nth M p=some (.cells [au nodes,.int .i64 next,.int .i64 af])) :
  ar (ag aH) 243 [.ptr p 0,.int .i64 ino] M=some (.tuple [.int .i64 (eO nodes ino),.bool (zD nodes ino (eO nodes ino))],M):=by
 have:=gj hM (akq nodes next af ino h hn) rfl rfl rfl rfl rfl rfl rfl rfl rfl rfl
 rwa[gN hM] at this
def ajx(nodes:List Node)(next af ino:Int)(h:gr nodes)(hn:nodes.length<=100000):ag aH 162 [.ptr 0 0,.int .i64 ino] [.cells [au nodes,.int .i64 next,.int .i64 af]] =
  some (.tuple [aF (aD nodes ino),.bool (find nodes ino).isSome],[.cells [au nodes,.int .i64 next,.int .i64 af]]):=by
 refine ai ?_;have hk:=fun M=>Xp nodes next af ino h hn 0 (.cells [au nodes,.int .i64 next,.int .i64 af]::M) rfl
 simp only[JZ,Vs,hk,EN,simprocAttr];rcases ky h ino with ⟨h1,n,h2,h3,h4⟩|⟨h1,h2⟩
 ·simp only[Vs,h1,h2,h3,aD,an,EN,simprocAttr];rfl
 ·simp only[Vs,h1,h2,aD,EN,simprocAttr];rfl
def xF(nodes:List Node)(next af ino:Int)(h:gr nodes)(hn:nodes.length<=100000)(p:Nat)(M:aj)(hM:nth M p=some (.cells [au nodes,.int .i64 next,.int .i64 af])) :
  ar (ag aH) 162 [.ptr p 0,.int .i64 ino] M=some (.tuple [aF (aD nodes ino),.bool (find nodes ino).isSome],M):=by
 have:=gj hM (ajx nodes next af ino h hn) rfl rfl rfl rfl rfl rfl rfl rfl rfl rfl
 rwa[gN hM] at this
def aj7(nodes:List Node)(next af ino:Int)(h:gr nodes)(hn:nodes.length<=100000):ag aH 206 [.ptr 0 0,.int .i64 ino] [.cells [au nodes,.int .i64 next,.int .i64 af]] =
  some (.tuple [aF (cK nodes ino).1,.int .i64 (cK nodes ino).2],[.cells [au nodes,.int .i64 next,.int .i64 af]]):=by
 refine ai ?_;have hk:=fun M=>xF nodes next af ino h hn 0 (.cells [au nodes,.int .i64 next,.int .i64 af]::M) rfl
 simp only[Ky,QH,hk,aF,an,EN,simprocAttr];unfold cK;cases hf:find nodes ino with
 |none=>simp only[QH,aD,hf,Option.isSome,EN,simprocAttr]; first|done|rfl
 |some n =>
  simp only[QH,aD,hf,Option.isSome,Option.getD_some,EN,simprocAttr]
  repeat' ((first|refine aB (fun hb=>?_) (fun hb=>?_)|refine aJ (fun hb=>?_) (fun hb=>?_)|refine bp (fun hb=>?_) (fun hb=>?_))<;>simp only[hb,EN,QH,simprocAttr])
  all_goals (clear hk; simp_all [Node.zero])
def RO(nodes:List Node)(next af ino:Int)(h:gr nodes)(hn:nodes.length<=100000)(p:Nat)(M:aj)(hM:nth M p=some (.cells [au nodes,.int .i64 next,.int .i64 af])) :
  ar (ag aH) 206 [.ptr p 0,.int .i64 ino] M=some (.tuple [aF (cK nodes ino).1,.int .i64 (cK nodes ino).2],M):=by
 have:=gj hM (aj7 nodes next af ino h hn) rfl rfl rfl rfl rfl rfl rfl rfl rfl rfl
 rwa[gN hM] at this
end
end
section
open Go
-- What is decoded in the midst of a text: a byte below 128,or a rune from 128 on out of such bytes.
set_option maxRecDepth 100000 in
def EY{s pre r:List UInt8}{n:UInt8}(h:s=pre++n::r) :
  (n.toNat<128/\Utf8.decode ⟨s.toArray⟩ pre.length=(n.toNat,1)) \/
  ∃c m r',n::r=m++r'/\m≠[]/\(∀b,b∈m->128<=b.toNat)/\128<=c/\c<2147483648/\Utf8.decode ⟨s.toArray⟩ pre.length=(c,m.length):=by
 have hg:∀k,(⟨s.toArray⟩:ByteArray).get! (pre.length+k)=(n::r).getD k 0:=fun k=>by
  subst h
  show((pre++n::r).toArray)[pre.length+k]! = _
  simp only[List.getElem!_toArray,List.getElem!_eq_getElem?_getD,List.getD_eq_getElem?_getD];rw[List.getElem?_append_right (by omega),Nat.add_sub_cancel_left]
  rfl
 have hsz:(⟨s.toArray⟩:ByteArray).size=pre.length+(n::r).length:=by
  show s.toArray.size=_
  subst h; simp
 by_cases hn:n.toNat<128
 ·refine .inl ⟨hn,?_⟩;have h0:=hg 0;simp only[Nat.add_zero,List.getD_cons_zero] at h0;simp[Utf8.decode,h0,hn]
 ·refine .inr ?_;have hn':128<=n.toNat:=by omega
  have h0:=hg 0;have h1:=hg 1;have h2:=hg 2;have h3:=hg 3;simp only[Nat.add_zero,List.getD_cons_zero,List.getD_cons_succ] at h0 h1 h2 h3
  have one:∀c,128<=c->c<2147483648->Utf8.decode ⟨s.toArray⟩ pre.length=(c,1)->∃c m r',n::r=m++r'/\m≠[]/\(∀b,b∈m->128<=b.toNat)/\128<=c/\c<2147483648/\Utf8.decode ⟨s.toArray⟩ pre.length=(c,m.length) :=
   fun c hc hc2 hd=>⟨c,[n],r,rfl,by simp,by simpa using hn',hc,hc2,hd⟩
  have big:∀k,k<r.length->128<=(r.getD k 0).toNat->∃b,r[k]?=some b/\128<=b.toNat:=fun k hk hb=>by
   refine⟨r[k],List.getElem?_eq_getElem hk,?_⟩;simpa[List.getD_eq_getElem?_getD,List.getElem?_eq_getElem hk] using hb
  have hlt:¬n.toNat<0x80:=by omega
  have hN:n.toNat<256:=n.toNat_lt;unfold Utf8.decode at one ⊢;simp only[Nat.add_zero,h0,h1,h2,h3,hsz,List.length_cons,hlt,if_false] at one ⊢
  by_cases hA:(n.toNat / 32==6&&(decide (pre.length+1<pre.length+(r.length+1))&&(r.getD 0 0).toNat / 64==2))=true
  ·simp only[hA,if_true] at one ⊢;simp only[Bool.and_eq_true,beq_iff_eq,decide_eq_true_eq] at hA;obtain⟨hA1,hA2,hA3⟩:=hA
   by_cases hc:n.toNat % 32*64+(r.getD 0 0).toNat % 64>=0x80
   ·simp only[hc,if_true] at one ⊢;obtain⟨b0,g0,g1⟩:=big 0 (by omega) (by omega)
    match r,g0 with
    |_::r',g0 =>
     cases g0;exact⟨_,[n,_],r',rfl,by simp,by simp[hn',g1],hc,by omega,rfl⟩
   ·simp only[hc,if_false] at one ⊢;exact one _ (by decide) (by decide) rfl
  ·simp only[hA,if_false] at one ⊢
   by_cases hB:(n.toNat / 16==14&&(decide (pre.length+1<pre.length+(r.length+1))&&(r.getD 0 0).toNat / 64==2)&&(decide (pre.length+2<pre.length+(r.length+1))&&(r.getD 1 0).toNat / 64==2))=true
   ·simp only[hB,if_true] at one ⊢;simp only[Bool.and_eq_true,beq_iff_eq,decide_eq_true_eq] at hB;obtain⟨⟨hB1,hB2,hB3⟩,hB4,hB5⟩:=hB
    by_cases hc:((n.toNat % 16*4096+(r.getD 0 0).toNat % 64*64+(r.getD 1 0).toNat % 64>=0x800:Bool)&&Utf8.valid ((n.toNat % 16*4096+(r.getD 0 0).toNat % 64*64+(r.getD 1 0).toNat % 64:Nat):Int))=true
    ·simp only[hc,if_true] at one ⊢;simp only[Bool.and_eq_true,decide_eq_true_eq] at hc;obtain⟨b0,g0,g1⟩:=big 0 (by omega) (by omega)
     obtain⟨b1,k0,k1⟩:=big 1 (by omega) (by omega)
     match r,g0,k0 with
     |_::_::r',g0,k0 =>
      cases g0;cases k0;exact⟨_,[n,_,_],r',rfl,by simp,by simp[hn',g1,k1],by omega,by omega,rfl⟩
    ·simp only[hc,if_false] at one ⊢;exact one _ (by decide) (by decide) rfl
   ·simp only[hB,if_false] at one ⊢
    by_cases hC:(n.toNat / 8==30&&(decide (pre.length+1<pre.length+(r.length+1))&&(r.getD 0 0).toNat / 64==2)&&(decide (pre.length+2<pre.length+(r.length+1))&&(r.getD 1 0).toNat / 64==2)&&(decide (pre.length+3<pre.length+(r.length+1))&&(r.getD 2 0).toNat / 64==2))=true
    ·simp only[hC,if_true] at one ⊢;simp only[Bool.and_eq_true,beq_iff_eq,decide_eq_true_eq] at hC;obtain⟨⟨⟨hB1,hB2,hB3⟩,hB4,hB5⟩,hB6,hB7⟩:=hC
     by_cases hc:((n.toNat % 8*262144+(r.getD 0 0).toNat % 64*4096+(r.getD 1 0).toNat % 64*64+(r.getD 2 0).toNat % 64>=0x10000:Bool)&&Utf8.valid ((n.toNat % 8*262144+(r.getD 0 0).toNat % 64*4096+(r.getD 1 0).toNat % 64*64+(r.getD 2 0).toNat % 64:Nat):Int))=true
     ·simp only[hc,if_true] at one ⊢;simp only[Bool.and_eq_true,decide_eq_true_eq] at hc;obtain⟨b0,g0,g1⟩:=big 0 (by omega) (by omega)
      obtain⟨b1,k0,k1⟩:=big 1 (by omega) (by omega)
      obtain⟨b2,l0,l1⟩:=big 2 (by omega) (by omega)
      match r,g0,k0,l0 with
      |_::_::_::r',g0,k0,l0 =>
       cases g0;cases k0;cases l0;exact⟨_,[n,_,_,_],r',rfl,by simp,by simp[hn',g1,k1,l1],by omega,by omega,rfl⟩
     ·simp only[hc,if_false] at one ⊢;exact one _ (by decide) (by decide) rfl
    ·simp only[hC,if_false] at one ⊢;exact one _ (by decide) (by decide) rfl
end
section
open Go Go.Abs
section
attribute [local irreducible] bS cz fu gK bG kr ag ar aQ aG
def gu(_:Bytes):Prop:=True
def all_true{m:Bytes}(h:∀b,b∈m->128<=b.toNat):m.all kh=true:=by
 rw[List.all_eq_true];intro b hb;have:=h b hb;have h1:¬((b.toNat:Int)<32):=by omega
 have h2:¬((b.toNat:Int)=47):=by omega
 simp[kh,h1,h2]
def S4{s:Bytes}(hs:s.length<=100000)(ha:gu s){k:List K}{R:Bool->Option (ae×aj)}
  (hx:∀e p,kr (ag aH) [.tmp 2] 0 k ⟨.exit 0,e,[.fI s p]⟩=R true) (hr:∀p,kr (ag aH) [.tmp 2] 0 k ⟨.ret,[(2,.bool false)],[.fI s p]⟩=R false) :
  ∀(q:Nat)(l pre:Bytes),l.length<=q->s=pre++l->bS (ag aH) [.tmp 2] 0 k (.loop [21] FD) [(21,.dD 0)] [.fI s pre.length]=R (l.all kh):=by
 intro q;induction q with
 |zero =>
  intro l pre hq h;have h0:l=[]:=List.eq_nil_of_length_eq_zero (by omega)
  subst h0;rw[aC];have hlt:(pre.length<s.length)=False:=by rw[h]; simp
  simp only[om,hlt,EN,simprocAttr];exact hx _ _
 |succ q ih =>
  intro l pre hq h;cases l with
  |nil =>
   rw[aC];have hlt:(pre.length<s.length)=False:=by rw[h]; simp
   simp only[om,hlt,EN,simprocAttr];exact hx _ _
  |cons n r =>
   rw[aC];have hlt:(pre.length<s.length)=True:=by rw[h]; simp
   rcases EY h with ⟨hn,hd⟩|⟨c,m,r',hm,hne,hb,hc,hc2,hd⟩
   ·have hi:=ih r (pre++[n]) (by simp at hq; omega) (by rw[h]; simp)
    simp only[List.length_append,List.length_cons,List.length_nil,Nat.zero_add] at hi;simp only[om,hlt,hd,EN,simprocAttr]
    repeat' ((first|refine aB (fun hb=>?_) (fun hb=>?_)|refine aJ (fun hb=>?_) (fun hb=>?_)|refine bp (fun hb=>?_) (fun hb=>?_))<;>simp only[hb,om,hd,EV,simprocAttr])
    all_goals first
     |(refine(hr _).trans ?_; congr 1; symm; clear hi ih hx hr hd h; simp_all [kh]; done)
     |(refine hi.trans ?_; congr 1; symm; clear hi ih hx hr hd h; simp_all [kh]; done)
   ·have hml:0<m.length:=List.length_pos_iff.2 hne;have hl2:(n::r).length=m.length+r'.length:=by rw[hm]; simp
    have hi:=ih r' (pre++m) (by simp at hq hl2; omega) (by rw[h,hm]; simp)
    simp only[List.length_append] at hi;have h32:decide ((c:Int)<32)=false:=by simp; omega
    have h47:((c:Int)==47)=false:=by rw[beq_eq_false_iff_ne]; omega
    rw[hm,List.all_append,all_true hb,Bool.true_and];simp only[om,hlt,hd,h32,h47,EN,simprocAttr];exact hi
def aj8(s:Bytes)(hs:s.length<=100000)(ha:gu s):ag aH 207 [.str s] []=some (.bool (cr s),[]):=by
 refine ai ?_;simp only[x8,om,EN,simprocAttr];have hl:=fun k hx hr=>S4 (k:=k) (R:=fun b=>some (ae.bool b,[])) hs ha hx hr s.length s [] (Nat.le_refl _) rfl
 have he:(s==[])=decide ((s.length:Int)<1):=by cases s<;>simp; omega
 rw[he]
 repeat' ((first|refine aB (fun hb=>?_) (fun hb=>?_)|refine aJ (fun hb=>?_) (fun hb=>?_)|refine bp (fun hb=>?_) (fun hb=>?_))<;>simp only[hb,EN,om,simprocAttr])
 all_goals first
  |(clear hl he; simp_all [cr]; done)
  |(refine(hl _ (fun e p=>by simp only[om,EN,simprocAttr]) (fun p=>by simp only[om,EN,simprocAttr])).trans ?_; clear hl he; simp_all [cr]; done)
def Xn s hs ha:=cP (aj8 s hs ha)
def alR(a b:Bytes)(M:aj):ar (ag aH) 295 [.str a,.str b] M=some (.int .i64 (Lib.compareBytes a b),M) :=
 cO (bR (g:=su) rfl rfl) M
def akG(a b:Bytes):ag aH 263 [.str a,.str b] []=some (.int .i64 (Lib.compareBytes a b),[]):=by
 refine ai ?_;simp only[K5,aip,alR,EN,simprocAttr]
def alM a b:=cP (akG a b)
def EU:∀(a b:Bytes),(Lib.compareBytes a b<0)=(strLt a b=true)
 | [],[]=>by simp[Lib.compareBytes,strLt]
 | [],_::_=>by simp[Lib.compareBytes,strLt]
 |_::_,[]=>by simp[Lib.compareBytes,strLt]
 |a::x,b::y=>by
  rw[Lib.compareBytes,strLt]
  by_cases h1:a<b
  ·simp[h1]
  ·by_cases h2:b<a
   ·have h3:¬a=b:=by rintro rfl; exact UInt8.lt_irrefl _ h2
    simp[h1,h2,h3]
   ·have h3:a=b:=by rw[<-UInt8.toNat_inj]; simp only[UInt8.lt_iff_toNat_lt] at h1 h2; omega
    subst h3;simp[h1,EU x y]
def ET:∀(a b:Bytes),(Lib.compareBytes a b==0)=(a==b)
 | [],[]=>by simp[Lib.compareBytes]
 | [],_::_=>by simp[Lib.compareBytes]
 |_::_,[]=>by simp[Lib.compareBytes]
 |a::x,b::y=>by
  rw[Lib.compareBytes]
  by_cases h1:a<b
  ·have h3:¬a=b:=by rintro rfl; exact UInt8.lt_irrefl _ h1
   simp[h1,h3]
  ·by_cases h2:b<a
   ·have h3:¬a=b:=by rintro rfl; exact UInt8.lt_irrefl _ h2
    simp[h1,h2,h3]
   ·have h3:a=b:=by rw[<-UInt8.toNat_inj]; simp only[UInt8.lt_iff_toNat_lt] at h1 h2; omega
    subst h3;simp only[h1,if_false,ET x y];simp
def akF(e:ct)(s:Bytes):ag aH 262 [cn e,.str s] []=some (.int .i64 (Lib.compareBytes e.name s),[]):=by
 refine ai ?_;simp only[K4,aio,cn,bU,alM,EN,simprocAttr]
def aet(e:ct)(s:Bytes)(M:aj):ar (ag aH) 262 [.agg (bU e),.str s] M=some (.int .i64 (Lib.compareBytes e.name s),M):=cO (akF e s) M
structure Ap(av:List ct)(s:Bytes)(b:Nat):Prop where
 le:b<=av.length
 lt:∀h n,av[h]?=some n->(strLt n.name s=true↔h<b)
def Td{av:List ct}{s:Bytes}{b:Nat}(hb:Ap av s b)(hn:av.length<=100000){k:List K}{r:Option (ae×aj)}
  (hx:∀v q,kr (ag aH) [.tmp 6,.tmp 7] 0 k ⟨.exit 0,[(0,cT av),(1,.str s),(2,.func 262 []),(8,.int .i64 av.length),(9,.int .i64 b),(10,v),(17,q)],[]⟩=r) :
  ∀(f i j:Nat),j-i<=f->i<=b->b<=j->j<=av.length->bS (ag aH) [.tmp 6,.tmp 7] 0 k (.loop [0,1,2,8,9,10] SD) [(0,cT av),(1,.str s),(2,.func 262 []),(8,.int .i64 av.length),(9,.int .i64 i),(10,.int .i64 j)] []=r:=by
 intro f;induction f with
 |zero =>
  intro i j h1 h2 h3 h4;obtain rfl:i=b:=by omega
  rw[aC];have hlt:((i:Int)<(j:Int))=False:=by simp; omega
  simp only[An,hlt,EN,simprocAttr];exact hx _ _
 |succ f ih =>
  intro i j h1 h2 h3 h4;rw[aC]
  by_cases hij:i<j
  ·have hlt:((i:Int)<(j:Int))=True:=by simp; omega
   obtain⟨m1,m2,m3,m4,m5⟩:=wP i j (by omega) (by omega)
   have hmid:(i+j) / 2<av.length:=by omega
   have hx:=List.getElem?_eq_getElem hmid;have hl:=hb.lt _ _ hx;simp only[An,hlt,m1,m2,m3,m4,hx,aet,EU,Z3,ZX,EN,simprocAttr];refine aB (fun hq=>?_) (fun hq=>?_)
   ·have hq:strLt av[(i+j) / 2].name s=true:=by simpa using hq
    simp only[An,m5,EN,simprocAttr];exact ih ((i+j) / 2+1) j (by omega) (hl.1 hq) h3 h4
   ·have hq:¬strLt av[(i+j) / 2].name s=true:=by simpa using hq
    simp only[An,EN,simprocAttr];exact ih i ((i+j) / 2) (by omega) h2 (Nat.not_lt.1 fun h=>hq (hl.2 h)) (by omega)
  ·obtain rfl:i=b:=by omega
   have hlt:((i:Int)<(j:Int))=False:=by simp; omega
   simp only[An,hlt,EN,simprocAttr];exact hx _ _
def sb(av:List ct)(s:Bytes)(b:Nat):Bool:=match av[b]? with
 |some n=>n.name==s
 |none=>false
def akE(av:List ct)(s:Bytes)(b:Nat)(hb:Ap av s b)(hn:av.length<=100000):ag aH 261 [cT av,.str s,.func 262 []] []=some (.tuple [.int .i64 b,.bool (sb av s b)],[]):=by
 refine ai ?_;simp only[K3,An,EN,simprocAttr];refine Td hb hn (fun v q=>?_) av.length 0 av.length (by omega) (by omega) hb.le (by omega)
 unfold sb
 by_cases hlt:b<av.length
 ·have hx:=List.getElem?_eq_getElem hlt;have h1:((b:Int)<(av.length:Int))=True:=by simp; omega
  simp only[An,hx,h1,aet,ET,Z3,ZX,EN,simprocAttr]
 ·have hx:av[b]?=none:=List.getElem?_eq_none (by omega)
  have h1:((b:Int)<(av.length:Int))=False:=by simp; omega
  simp only[An,hx,h1,EN,simprocAttr]
def alK(av:List ct)(s:Bytes)(b:Nat)(hb:Ap av s b)(hn:av.length<=100000)(M:aj):ar (ag aH) 261 [cT av,.str s,.func 262 []] M=some (.tuple [.int .i64 b,.bool (sb av s b)],M) :=
 cO (akE av s b hb hn) M
def ja(l:List ct):Prop:=l.Pairwise fun a b=>strLt a.name b.name=true
def fa(l:List ct)(s:Bytes):Nat:=(l.takeWhile fun n=>strLt n.name s).length
def aj9(n:Node)(s:Bytes)(b:Nat)(hb:Ap n.av s b)(hn:n.av.length<=100000):ag aH 208 [aF n,.str s] []=some (.tuple [.int .i64 b,.bool (sb n.av s b)],[]):=by
 refine ai ?_;have hk:=alK n.av s b hb hn;simp only[Kz,aib,aF,an,hk,EN,simprocAttr]
def LC(a b c:Int)(d:Bytes)(e:List ct)(u:Int)(s:Bytes)(i:Nat)(hb:Ap e s i)(hn:e.length<=100000)(M:aj):ar (ag aH) 208 [.agg [.int .i64 a,.int .i64 b,.int .i64 c,bc d,cT e,.int .i64 u],.str s] M=some (.tuple [.int .i64 i,.bool (sb e s i)],M) :=
 cO (aj9 ⟨a,b,c,d,e,u⟩ s i hb hn) M
end
section
open Go.RowKit Go.Shelf
def xK{α:Type}(b0:Nat)(F:Fence)(n:Nat)(P:Program)(g:Nat)(lb:Array Value)(encs:α->Array Value)(Kp:World->World->Prop)(S Sp:List α->Prop)(N:Nat)(w:World):Prop :=
 ∀(l:Nat)(J Jx:List α->World->Prop)(W:World),Below w.heap.size w W->AbidesFrom W.heap.size J->AbidesFrom W.heap.size Jx->(∀s A v,J s A->J s (A.setCell ⟨b0,0,none⟩ v)) ->
  (∀pre x W1,J pre W1->pre.length<N->YieldAt F (n-1) P l (encs x) W1 fun e W' =>
   (e = .returned (.bool true)/\J (pre++[x]) W'/\Kp W1 W')\/(e = .returned (.bool false)/\Jx (pre++[x]) W')) ->
  J [] W ->
  CallsIn F n P g (#[.func (.yield l) #[] #[]]++lb) W fun e W'=>(∃v,e = .returned v)/\((∃xs,S xs/\J xs W')\/(∃pre,Sp pre/\Jx pre W'))
def pX{F:Fence}{n:Nat}{P:Program}{b0:Nat}{α:Type}{g:Operand}{ps:Array Tmp}{assign body:Code}{Q:Exit->Act->World->Prop}{a:Act}{w:World}(hb0w:b0<w.heap.size)
  (hro:F.round=none) (h1:1<=n) {gf:Nat} {lb:Array Value} (hg:a.eval g = .func (.func gf) #[] lb) (hFg:F.fn gf) (eg:∀args w,(callFunc gf args).run P w = .ok (.enter gf args) w)
  {encs:α->Array Value} {Kp:World->World->Prop} {S Sp:List α->Prop} {N:Nat} {w0:World} (hseq:xK b0 F (n-1) P gf lb encs Kp S Sp N w0)
  (hKt:∀ {A B C:World},Kp A B->Kp B C->Kp A C) (hKb:∀(W:World)(l:Nat)(o o':Obj),w.heap.size<=l->W.heap[l]?=some o->o.isCells=false->o.isWalk=false->Kp W (W.putObj l o')) (hb0:Below w0.heap.size w0 w) (hps:∀x,(encs x).size=ps.size)
  (I:List α->World->Prop) (Ix:Code->List α->World->Prop) (hI:OwnFrom w.heap.size I) (hIx:∀c,OwnFrom w.heap.size (Ix c)) (hIc:∀s A v,I s A->I s (A.setCell ⟨b0,0,none⟩ v)) (h0:I [] w) (a₁:α->Act)
  (hassign:∀(l:Nat)(x:α)(W:World)(K:Act->World->Prop),K (a₁ x) W ->
   assign.wpIn (F.inRound l) (n-1-1) P (Exit.then K (fun _ _ _=>False)) { tmps:=(ps.zip (encs x)).foldl (fun t (p,v)=>t.setIfInBounds p v) a.tmps,defers:=[] } W)
  (hbody:∀(l:Nat)(pre:List α)(x:α)(W:World),I pre W->pre.length<N->body.wpIn (F.inRound l) (n-1-1) P (ownPostK Kp I Ix (pre++[x]) W) (a₁ x) W)
  (hdone:∀(D:Nat)(xs:List α)(W:World),w.heap.size<=D->S xs->I xs W->W.heap[D]?=some (.deferred (some []))->Q .normal { a with defers:={ target := .collected D,args := #[] }::a.defers } W)
  (hstop:∀(D:Nat)(c:Code)(pre:List α)(W:World),w.heap.size<=D->Sp pre->Ix c pre W->W.heap[D]?=some (.deferred (some []))->c.wpIn F n P Q { a with defers:={ target := .collected D,args := #[] }::a.defers } W) :
  (Code.rangeFunc g ps assign body).wpIn F n P Q a w:=by
 refine wpIn_rangeFunc ?_;intro fn hfn;rw[hro];obtain⟨rec,hrec⟩:∃rec:LoopState->Option Code->Loop,rec=fun st pe=>{ state:=st,pending:=pe,fn,tmps:=a.tmps,params:=ps,assign,body,defers:=w.heap.size }:=⟨_,rfl⟩
 obtain⟨W1,hW1⟩:∃W1,(w.alloc (.deferred (some []))).alloc (.loop (rec .ready none))=W1:=⟨_,rfl⟩
 have hL1:W1.heap[w.heap.size+1]?=some (.loop (rec .ready none)):=by
  rw[<-hW1]; have:=World.alloc_heap_new (w.alloc (.deferred (some []))) (.loop (rec .ready none)); rwa[World.size_alloc] at this
 have hK1:W1.heap[w.heap.size]?=some (.deferred (some [])):=by
  rw[<-hW1]; exact(Below.heap_alloc _ _ _ (by simp)).trans (World.alloc_heap_new w _)
 have hI1:I [] W1:=by rw[<-hW1]; exact hI.alloc _ (hI.alloc _ h0)
 have hb1:Below w0.heap.size w0 W1:=by
  rw[<-hW1]; exact hb0.trans ((((Below.refl _ w).alloc (Nat.le_refl _) _).alloc (by simp) _).mono hb0.size)
 refine⟨w.heap.size+1,[{ target := .collected w.heap.size,args := #[] }],W1,{ target := .fn (.func gf) lb,args := #[.func (.yield (w.heap.size+1)) #[] #[]] },W1,gf,
  #[.func (.yield (w.heap.size+1)) #[] #[]]++lb,W1,?_,?_,?_,?_,fun _=>h1,?_⟩
 ·rw[<-hW1,hrec]; exact run_enterLoop_outer _ _ _ _ _
 ·simp only[resolve,hg];simp[go_sem]
 ·intro f' hf'; simp[Target.leads] at hf'; subst hf'; exact hFg
 ·simp[invoke,go_sem,eg]
 ·have hnw:∀ {A B:World} {row:Option Nat},(∀r,row=some r->W1.heap.size<=r/\∃o:Obj,A.heap[r]?=some o/\o.isWalk=true)->(∀r,row=some r->w.heap.size<=r/\∃o:Obj,A.heap[r]?=some o/\o.isCells=false) :=
   fun hr r e=>by obtain⟨hB,o,ho,hw⟩:=hr r e; exact⟨by rw[<-hW1] at hB; simp at hB; omega,o,ho,Obj.not_cells_of_walk hw⟩
  refine(hseq (w.heap.size+1)
   (fun pre W=>I pre W/\W.heap[w.heap.size+1]?=some (.loop (rec .ready none))/\W.heap[w.heap.size]?=some (.deferred (some [])))
   (fun pre W=>∃c,Ix c pre W/\W.heap[w.heap.size+1]?=some (.loop (rec .done (some c)))/\W.heap[w.heap.size]?=some (.deferred (some [])))
   W1 hb1
   (fun s A B row hs hg' hr=>⟨hI s A B row hs.1 hg' (hnw (B:=B) hr),(grownBy_keeps hg' (fun r e=>(hr r e).2) hs.2.1 rfl).trans hs.2.1,(grownBy_keeps hg' (fun r e=>(hr r e).2) hs.2.2 rfl).trans hs.2.2⟩)
   (fun s A B row hs hg' hr=>by
    obtain⟨c,hc,hl,hk⟩:=hs;exact⟨c,hIx c s A B row hc hg' (hnw (B:=B) hr),(grownBy_keeps hg' (fun r e=>(hr r e).2) hl rfl).trans hl,(grownBy_keeps hg' (fun r e=>(hr r e).2) hk rfl).trans hk⟩)
   (fun s A v hs=>⟨hIc s A v hs.1,(Below.heap_setCell _ _ _ _ (by show _≠b0; omega)).trans hs.2.1,(Below.heap_setCell _ _ _ _ (by show _≠b0; omega)).trans hs.2.2⟩)
   ?_ ⟨hI1,hL1,hK1⟩).mono ?_
  ·rintro pre x W ⟨hi,hl,hk⟩ hlen;have hlt:w.heap.size+1<W.heap.size:=(Array.getElem?_eq_some_iff.1 hl).1;have hy:=run_yield (P:=P) (args:=encs x) hl (by rw[hrec]; exact hps x)
   rw[hrec] at hy;refine⟨fn,_,assign,body,hy,roundIn_of_wpIn hfn (hassign _ x W _ ⟨_,run_beginRound hl (by rw[hrec]),?_⟩)⟩
   have hl2:(W.putObj (w.heap.size+1) (.loop { rec .ready none with state := .busy })).heap[w.heap.size+1]?=some (.loop { rec .ready none with state := .busy }):=World.putObj_heap_same hlt
   have hk2:(W.putObj (w.heap.size+1) (.loop { rec .ready none with state := .busy })).heap[w.heap.size]?=some (.deferred (some [])):=(World.putObj_heap_other (by omega)).trans hk
   have hw2:Kp W (W.putObj (w.heap.size+1) (.loop { rec .ready none with state := .busy })):=hKb _ _ _ _ (by omega) hl rfl rfl
   refine wpIn_mono (hbody _ pre x _ (hI.putObj _ hi (by omega) hl rfl) hlen) ?_
   have fin:∀(jump:Option Code)(W3:World),KeepsOthers (W.putObj (w.heap.size+1) (.loop { rec .ready none with state := .busy })) W3 ->
     (Instr.endRound (w.heap.size+1) jump).run P W3 = .ok (.bool jump.isNone) (W3.putObj (w.heap.size+1) (.loop (rec (if jump.isNone then .ready else .done) jump))) /\
     W3.heap[w.heap.size+1]?=some (.loop { rec .ready none with state := .busy }) /\
     (W3.putObj (w.heap.size+1) (.loop (rec (if jump.isNone then .ready else .done) jump))).heap[w.heap.size+1]?=some (.loop (rec (if jump.isNone then .ready else .done) jump)) /\
     (W3.putObj (w.heap.size+1) (.loop (rec (if jump.isNone then .ready else .done) jump))).heap[w.heap.size]?=some (.deferred (some [])):=fun jump W3 hk3=>by
    have hl3:=hk3.same _ _ hl2 rfl;have:=run_endRound (P:=P) jump hl3;rw[hrec] at this ⊢;exact⟨this,by rw[hrec] at hl3; exact hl3,World.putObj_heap_same (Array.getElem?_eq_some_iff.1 hl3).1,(World.putObj_heap_other (by omega)).trans (hk3.same _ _ hk2 rfl)⟩
   rintro e a3 W3 hp;cases e with
   |normal =>
    obtain⟨hk3,hkp3,hi3⟩:=hp;obtain⟨hr,hl3,hl4,hk4⟩:=fin none W3 hk3;exact⟨_,_,hr,.inl ⟨rfl,⟨hI.putObj _ hi3 (by omega) hl3 rfl,hl4,hk4⟩,hKt (hKt hw2 hkp3) (hKb _ _ _ _ (by omega) hl3 rfl rfl)⟩⟩
   |ret =>
    obtain⟨hk3,hi3⟩:=hp;obtain⟨hr,hl3,hl4,hk4⟩:=fin (some .ret) W3 hk3;exact⟨_,_,hr,.inr ⟨rfl,.ret,(hIx _).putObj _ hi3 (by omega) hl3 rfl,hl4,hk4⟩⟩
   |exit id =>
    obtain⟨hk3,hi3⟩:=hp;obtain⟨hr,hl3,hl4,hk4⟩:=fin (some (.exit id)) W3 hk3;exact⟨_,_,hr,.inr ⟨rfl,.exit id,(hIx _).putObj _ hi3 (by omega) hl3 rfl,hl4,hk4⟩⟩
   |goto t =>
    obtain⟨hk3,hi3⟩:=hp;obtain⟨hr,hl3,hl4,hk4⟩:=fin (some (.goto t)) W3 hk3;exact⟨_,_,hr,.inr ⟨rfl,.goto t,(hIx _).putObj _ hi3 (by omega) hl3 rfl,hl4,hk4⟩⟩
   |panic ch=>exact hp.elim
   |outgrown=>exact hp.elim
  ·rintro e W2 ⟨⟨v,rfl⟩,(⟨xs,hS,hi,hl,hk⟩|⟨pre,hSp,c,hi,hl,hk⟩)⟩
   ·exact⟨none,_,by have:=run_endLoop (P:=P) hl (by rw[hrec]; simp); rw[hrec] at this; exact this,hdone _ xs _ (Nat.le_refl _) hS (hI.putObj _ hi (by omega) hl rfl) ((World.putObj_heap_other (by omega)).trans hk)⟩
   ·exact⟨some c,_,by have:=run_endLoop (P:=P) hl (by rw[hrec]; simp); rw[hrec] at this; exact this,hstop _ c pre _ (Nat.le_refl _) hSp ((hIx c).putObj _ hi (by omega) hl rfl) ((World.putObj_heap_other (by omega)).trans hk)⟩
def Ft:J:=⟨fun _=>none,fun _ _=>False⟩
def PN(w:World):Rel Ft [] w where
 inj:=fun _ _ _ h=>by cases h
 lt:=fun _ _ h=>by cases h
 fix:=fun _ _ h=>by cases h
 tick:=fun _ _ _ _ h=>by cases h
 arr:=fun _ _ _ _ h=>by cases h
 mN:=fun _ _ h=>by cases h
 tb:=fun _ _ h=>h.elim
@[reducible] def G0:ew:={ g:=fun _=>none }
def Y4:@iq G0 Tryz.prog (xL [] Tryz.f207) Tryz.f207=some x8:=by kernel_rfl
def Y5:@iq G0 Tryz.prog (xL [] Tryz.f273) Tryz.f273=some Bw:=by kernel_rfl
def Y6:@iq G0 Tryz.prog (xL [] Tryz.f307) Tryz.f307=some BA:=by kernel_rfl
def Y7:@iq G0 Tryz.prog (xL [] Tryz.f325) Tryz.f325=some x9:=by kernel_rfl
def zQ{α:Type}{x:α}{P:Prop}(h:(none:Option α)=some x):P:=by cases h
def adO(w:World):@ke G0 Ft [] w:=@ke.mk G0 _ _ _ (fun b vs k v h=>zQ (show(none:Option (List Value))=some vs from h)) (fun b vs h=>zQ (show(none:Option (List Value))=some vs from h)) (fun b p h=>zQ (show(none:Option (Value->Prop))=some p from h))
def Ut:Nat->Option bD
 |207=>some x8
 |273=>some Bw
 |307=>some BA
 |325=>some x9
 |_=>none
noncomputable def xi:rD:=⟨Ut,fun _=>none⟩
def TY:@oC G0 Tryz.prog xi:=by
 refine @oC.mk G0 _ _ (fun f fn h=>?_) (fun f g h=>by cases h)
 simp only[xi] at h;unfold Ut at h;split at h
 ·cases h; exact⟨_,_,Tryz.func207,Y4⟩
 ·cases h; exact⟨_,_,Tryz.func273,Y5⟩
 ·cases h; exact⟨_,_,Tryz.func307,Y6⟩
 ·cases h; exact⟨_,_,Tryz.func325,Y7⟩
 ·cases h
def ZY:@im G0 Tryz.prog (ag xi):=@ma G0 _ (by kernel_rfl) _ TY
section
attribute [local irreducible] bS cz fu gK bG kr ag ar aQ aG
def OD{s:Bytes}(hs:s.length<=100000)(ha:gu s){k:List K}{R:Bool->Option (ae×aj)}
  (hx:∀e p,kr (ag xi) [.tmp 2] 0 k ⟨.exit 0,e,[.fI s p]⟩=R true) (hr:∀p,kr (ag xi) [.tmp 2] 0 k ⟨.ret,[(2,.bool false)],[.fI s p]⟩=R false) :
  ∀(q:Nat)(l pre:Bytes),l.length<=q->s=pre++l->bS (ag xi) [.tmp 2] 0 k (.loop [21] FD) [(21,.dD 0)] [.fI s pre.length]=R (l.all kh):=by
 intro q;induction q with
 |zero =>
  intro l pre hq h;have h0:l=[]:=List.eq_nil_of_length_eq_zero (by omega)
  subst h0;rw[aC];have hlt:(pre.length<s.length)=False:=by rw[h]; simp
  simp only[om,hlt,EN,simprocAttr];exact hx _ _
 |succ q ih =>
  intro l pre hq h;cases l with
  |nil =>
   rw[aC];have hlt:(pre.length<s.length)=False:=by rw[h]; simp
   simp only[om,hlt,EN,simprocAttr];exact hx _ _
  |cons n r =>
   rw[aC];have hlt:(pre.length<s.length)=True:=by rw[h]; simp
   rcases EY h with ⟨hn,hd⟩|⟨c,m,r',hm,hne,hb,hc,hc2,hd⟩
   ·have hi:=ih r (pre++[n]) (by simp at hq; omega) (by rw[h]; simp)
    simp only[List.length_append,List.length_cons,List.length_nil,Nat.zero_add] at hi;simp only[om,hlt,hd,EN,simprocAttr]
    repeat' ((first|refine aB (fun hb=>?_) (fun hb=>?_)|refine aJ (fun hb=>?_) (fun hb=>?_)|refine bp (fun hb=>?_) (fun hb=>?_))<;>simp only[hb,om,hd,EV,simprocAttr])
    all_goals first
     |(refine(hr _).trans ?_; congr 1; symm; clear hi ih hx hr hd h; simp_all [kh]; done)
     |(refine hi.trans ?_; congr 1; symm; clear hi ih hx hr hd h; simp_all [kh]; done)
   ·have hml:0<m.length:=List.length_pos_iff.2 hne;have hl2:(n::r).length=m.length+r'.length:=by rw[hm]; simp
    have hi:=ih r' (pre++m) (by simp at hq hl2; omega) (by rw[h,hm]; simp)
    simp only[List.length_append] at hi;have h32:decide ((c:Int)<32)=false:=by simp; omega
    have h47:((c:Int)==47)=false:=by rw[beq_eq_false_iff_ne]; omega
    rw[hm,List.all_append,all_true hb,Bool.true_and];simp only[om,hlt,hd,h32,h47,EN,simprocAttr];exact hi
def acM(s:Bytes)(hs:s.length<=100000)(ha:gu s):ag xi 207 [.str s] []=some (.bool (cr s),[]):=by
 refine ai ?_;simp only[x8,om,EN,simprocAttr];have hl:=fun k hx hr=>OD (k:=k) (R:=fun b=>some (ae.bool b,[])) hs ha hx hr s.length s [] (Nat.le_refl _) rfl
 have he:(s==[])=decide ((s.length:Int)<1):=by cases s<;>simp; omega
 rw[he]
 repeat' ((first|refine aB (fun hb=>?_) (fun hb=>?_)|refine aJ (fun hb=>?_) (fun hb=>?_)|refine bp (fun hb=>?_) (fun hb=>?_))<;>simp only[hb,EN,om,simprocAttr])
 all_goals first
  |(clear hl he; simp_all [cr]; done)
  |(refine(hl _ (fun e p=>by simp only[om,EN,simprocAttr]) (fun p=>by simp only[om,EN,simprocAttr])).trans ?_; clear hl he; simp_all [cr]; done)
end
def w5{f:Nat}{args:List ae}{r:ae}(h:ag xi f args []=some (r,[]))(hp:r.dJ=false)(w:World)(vs:Array Value)(hl:args.length=vs.size)(hv:∀(i:Nat)(c:ae)(v:Value),args[i]?=some c->vs[i]?=some v->cC Ft [] w c v) :
  Calls Tryz.prog f vs w fun e w'=>∃v j',e = .returned v/\w.grownBy w' none/\cC j' [] w' r v:=by
 refine((ZY f args [] _ h).2 Ft w vs (PN w) (adO w) hl hv).mono ?_;intro e w' hce;obtain⟨v,rfl,j',_,hx,hr⟩:=hce.ret hp;exact⟨v,j',rfl,⟨hx.os,hx.tape,hx.output,hx.size,fun k hk _=>(hx.nA k hk fun i hi=>by cases hi).1⟩,hr⟩
def PS(s:Bytes)(hs:s.length<=100000)(ha:gu s)(w:World):Calls Tryz.prog 207 #[.string (bs s)] w fun e w'=>e = .returned (.bool (cr s))/\w.grownBy w' none:=by
 refine(w5 (acM s hs ha) rfl w #[.string (bs s)] rfl ?_).mono ?_
 ·intro i c v h1 h2
  match i with
  |0=>cases h1; cases h2; exact .plain (.str _)
  |i+1=>cases h1
 ·rintro e w' ⟨v,j',rfl,hg,hr⟩;rw[hr.dy];exact⟨rfl,hg⟩
set_option maxHeartbeats 1000000 in
set_option maxRecDepth 100000 in
def Lr(a:ByteArray)(c:Int)(w:World) :
  Calls Tryz.prog 308 #[.string a,.int .u8 c] w fun e w'=>e = .returned (.int .i64 (Lib.indexByte a.data.toList c.toNat.toUInt8))/\w'=w:=by
 go_enter Tryz.func308,Tryz.ntmps308
 go_wp2
 rw[run_callFunc_extern Tryz.func326 (by kernel_rfl) (by kernel_rfl) (by kernel_rfl) (e:=Extern.BytealgIndexByte.indexByte) (by kernel_rfl),Lib.run_indexByteString]
 simp only[Result.andThen];rw[Oper.upon_value]
 go_wp2
 go_ret
 exact⟨rfl,rfl⟩
set_option maxHeartbeats 1000000 in
set_option maxRecDepth 100000 in
def Lq(a:ByteArray)(c:Int)(w:World) :
  Calls Tryz.prog 274 #[.string a,.int .u8 c] w fun e w'=>e = .returned (.int .i64 (Lib.indexByte a.data.toList c.toNat.toUInt8))/\w'=w:=by
 go_enter Tryz.func274,Tryz.ntmps274
 go_wp2_with (go_at_call 308; refine(Lr _ _ _).mono ?_; rintro e w' ⟨rfl,rfl⟩)
 go_ret
 exact⟨rfl,rfl⟩
section ev
attribute [local irreducible] bS cz fu gK bG kr ag ar aQ aG
def lj:Bytes->Bytes×Bool
 |b::r=>if b=47 then (r,true) else (b::r,false)
 | []=>([],false)
def G9:Bytes->Bool
 |b::_=>b==47
 | []=>false
def akQ(s:Bytes):ag xi 325 [.str s,.str [47]] []=some (.bool (G9 s),[]):=by
 refine ai ?_;cases s with
 |nil =>
  have h0:decide (((1:Nat):Int)<=((0:Nat):Int))=false:=by decide
  simp only[x9,QN,h0,EN,simprocAttr];simp only[G9,QN,h0,EN,simprocAttr]
 |cons b r =>
  have h1:(1:Int)<=(r.length:Int)+1:=by omega
  simp only[x9,QN,EN,simprocAttr];simp[G9,h1,bX,QN,EN,simprocAttr]
  try (cases hb:(b==47)<;>simp_all)
def aev s:=cP (akQ s)
def akP(s:Bytes):ag xi 307 [.str s,.str [47]] []=some (.tuple [.str (lj s).1,.bool (lj s).2],[]):=by
 refine ai ?_;simp only[BA,QM,aev,EN,simprocAttr];cases s with
 |nil=>simp only[G9,QM,aev,EN,simprocAttr]; rfl
 |cons b r =>
  by_cases hb:b=47
  ·have h1:(1:Int)<=(r.length:Int)+1:=by omega
   have h2:(0:Int)<=(r.length:Int)+1:=by omega
   simp[G9,hb,QM,lj,bX,h1,h2,EN,simprocAttr]
  ·have hb':(b==47)=false:=by simpa using hb
   simp only[G9,hb',QM,EN,simprocAttr];simp[lj,hb]
def alT s:=cP (akP s)
def akK(s:Bytes):ag xi 273 [.str s,.str [47]] []=some (.tuple [.str (lj s).1,.bool (lj s).2],[]):=by
 refine ai ?_;simp only[Bw,air,alT,EN,simprocAttr]
end ev
def Wn(s:Bytes)(w:World):Calls Tryz.prog 273 #[.string (bs s),.string ⟨#[47]⟩] w fun e w'=>e = .returned (.tuple #[.string (bs (lj s).1),.bool (lj s).2])/\w.grownBy w' none:=by
 refine(w5 (akK s) rfl w #[.string (bs s),.string ⟨#[47]⟩] rfl ?_).mono ?_
 ·intro i c v h1 h2
  match i with
  |0=>cases h1; cases h2; exact .plain (.str _)
  |1=>cases h1; cases h2; exact .plain (.str [47])
  |i+2=>cases h1
 ·rintro e w' ⟨v,j',rfl,hg,hr⟩;obtain⟨vs,rfl,hl,hv⟩:=hr.kW;obtain⟨l⟩:=vs
  match l,hl with
  | [u1,u2],_ =>
   rw[(hv 0 _ u1 rfl rfl).eb,(hv 1 _ u2 rfl rfl).dy];exact⟨rfl,hg⟩
def A3(s:Bytes):Nat:=if Lib.indexByte s 47<0 then s.length else (Lib.indexByte s 47).toNat
def lI(s:Bytes):Bytes×Bool:=((lj s).1.take (A3 (lj s).1),(lj s).2)
def ka(s:Bytes):Bytes:=(lj s).1.drop (A3 (lj s).1)
def nQ:Nat->Bytes->List (Bytes×Bool)
 |0,_=>[]
 |n+1,s=>match s with
  | []=>[]
  |b::r=>lI (b::r)::nQ n (ka (b::r))
def index_le(l:Bytes)(c:UInt8):Lib.indexByte l c<=l.length:=by
 induction l with
 |nil=>simp[Lib.indexByte]
 |cons b r ih =>
  simp only[Lib.indexByte];split
  ·simp; omega
  ·split
   ·simp; omega
   ·simp; omega
def Jb(s:Bytes):(lj s).1.length<=s.length:=by
 cases s with
 |nil=>simp[lj]
 |cons b r=>simp only[lj]; split<;>simp
def xa{s:Bytes}(h:s≠[]):(ka s).length<s.length:=by
 cases s with
 |nil=>exact absurd rfl h
 |cons b r =>
  unfold ka;rw[List.length_drop]
  by_cases hb:b=47
  ·have:lj (b::r)=(r,true):=by simp[lj,hb]
   rw[this]; simp; omega
  ·have e:lj (b::r)=(b::r,false):=by simp[lj,hb]
   rw[e]
   have:0<A3 (b::r):=by
    unfold A3;have hb':(b==47)=false:=by simpa using hb
    have hg:=Lib.indexByte_ge r 47;split
    ·simp
    ·rename_i hn;simp only[Lib.indexByte,hb',Bool.false_eq_true,if_false] at hn ⊢;split
     ·rename_i he; simp[he] at hn
     ·rename_i he;have:Lib.indexByte r 47 ≠ -1:=by simpa using he
      omega
   simp only[List.length_cons];omega
def zU:∀(n m:Nat)(s:Bytes),s.length<=n->s.length<=m->nQ n s=nQ m s:=by
 intro n;induction n with
 |zero =>
  intro m s h _;have:s=[]:=by cases s with|nil=>rfl|cons b r=>simp at h
  subst this;cases m<;>rfl
 |succ n ih =>
  intro m s h h';cases s with
  |nil=>cases m<;>rfl
  |cons b r =>
   cases m with
   |zero=>simp at h'
   |succ m =>
    have:=xa (s:=b::r) (by simp)
    simp only[nQ];rw[ih m _ (by omega) (by omega)]
def fH(s:Bytes):List (Bytes×Bool):=nQ s.length s
def sw{s:Bytes}(h:s≠[]):fH s=lI s::fH (ka s):=by
 cases s with
 |nil=>exact absurd rfl h
 |cons b r =>
  have:=xa (s:=b::r) (by simp)
  unfold fH;rw[show(b::r).length=r.length+1 from rfl,nQ]
  rw[zU r.length (ka (b::r)).length _ (by simp at this; omega) (by omega)]
def uA{s:Bytes}(h:gu s):gu (lI s).1:=trivial
def vI{s:Bytes}(h:gu s):gu (ka s):=trivial
def HO(s:Bytes):(lI s).1.length<=s.length:=by
 have:=Jb s;unfold lI;rw[List.length_take];omega
abbrev PA:={ x:Bytes×Bool // gu x.1/\x.1.length<=100000 }
abbrev Rj(x:PA):Array Value := #[.string (bs x.1.1),.bool x.1.2]
def zl(b0:Nat)(w:World):Nat:=match w.cell? ⟨b0,0,none⟩ with
 |some (.string s)=>s.size
 |_=>0
section
attribute [local go_sem] Oper.semAt_some
set_option maxHeartbeats 1000000 in
def HP(n:Nat)(s:Bytes)(w:World) :
  CallsIn Fence.wide n Tryz.prog 231 #[.string (bs s)] w fun e w'=>e = .returned (.func (.func 272) #[] #[.pointer (some ⟨w.heap.size,0,none⟩)])/\w'=w.alloc (.cells #[.string (bs s)] 9):=by
 refine callsIn_of_wp Tryz.func231 rfl trivial ?_ rfl;simp only[Tryz.ntmps231,List.size_toArray,List.length_cons,List.length_nil,Nat.reduceAdd,Nat.reduceSub,Array.replicate_succ,Array.replicate_zero,List.push_toArray,List.append_toArray,List.nil_append,List.cons_append]
 gi_wp2
 go_ret
 exact⟨rfl,rfl⟩
def EM(c:Bytes)(n:Nat):bs (c.drop n)=(bs c).extract n (bs c).size:=by
 rw[qT,show(bs c).size=c.length from rfl,List.take_length]
def nG{b0:Nat}{w:World}{s:Bytes}(h:Boxed w b0 9 (.string (bs s))):zl b0 w=s.length:=by
 unfold zl;rw[h.cell];rfl
set_option maxRecDepth 100000 in
set_option maxHeartbeats 1000000 in
def RF(n:Nat)(hn:3<=n)(l b0 N:Nat)(s0:Bytes)(ha:gu s0)(hs:s0.length<=100000)(hN:(fH s0).length<=N)(J Jx:List PA->World->Prop)(W:World)(hJ:AbidesFrom W.heap.size J)(hJc:∀s A v,J s A->J s (A.setCell ⟨b0,0,none⟩ v))
  (hY:∀pre x W1,J pre W1->pre.length<N->YieldAt Fence.wide (n-1) Tryz.prog l (Rj x) W1 fun e W' =>
   (e = .returned (.bool true)/\J (pre++[x]) W'/\W'.heap[b0]?=W1.heap[b0]?)\/(e = .returned (.bool false)/\Jx (pre++[x]) W'))
  (hB:Boxed W b0 9 (.string (bs s0))) (h0:J [] W) :
  CallsIn Fence.wide n Tryz.prog 272 #[.func (.yield l) #[] #[],.pointer (some ⟨b0,0,none⟩)] W fun e W'=>(∃v,e = .returned v) /\
   ((∃xs:List PA,xs.map (·.1)=fH s0/\J xs W')\/(∃pre:List PA,pre.map (·.1) <+: fH s0/\Jx pre W')):=by
 refine callsIn_of_wp Tryz.func272 rfl trivial ?_ rfl;simp only[Tryz.ntmps272,List.size_toArray,List.length_cons,List.length_nil,Nat.reduceAdd,Nat.reduceSub,Array.replicate_succ,Array.replicate_zero,List.push_toArray,List.append_toArray,List.nil_append,List.cons_append]
 gi_wp2
 gi_loopw [3] (fun _ wr=>∃(pre:List PA) (rest:Bytes),Boxed wr b0 9 (.string (bs rest))/\gu rest/\rest.length<=100000/\fH s0=pre.map (·.1)++fH rest/\J pre wr)
  (fun _ wr=>zl b0 wr)
 case atStart =>
  exact⟨[],s0,hB,ha,hs,rfl,h0⟩
 case round =>
  obtain⟨pre,rest,hb,hra,hrl,hp,hJs⟩:=hrel;have hf:=hb.frozen;cases rest with
  |nil =>
   have hc:wr.cell? ⟨b0,0,none⟩=some (.string ⟨#[]⟩):=hb.cell
   gi_wp2
   go_end0
   exact⟨⟨_,rfl⟩,.inl ⟨pre,by rw[hp]; simp[fH,nQ],hJs⟩⟩
  |cons x rest =>
   have hc:=hb.cell;have hne:(!(bs (x::rest)).toList.isEmpty)=true:=by simp[bs]
   gi_wp2
   refine⟨trivial,fun h=>(by cases h),(callsIn_wide.2 (Wn _ _)).mono ?_⟩
   rintro e w1 ⟨rfl,hg⟩;have hb1:Boxed w1 b0 9 (.string (bs (x::rest))):=hb.kept hg (by simp)
   have hJ1:J pre w1:=hJ pre wr w1 none hJs hg (fun r e=>by cases e)
   have hbr:=hb;clear hb hc hf hJs;have hc1:=hb1.cell;have hf1:=hb1.frozen
   gi_wp2
   refine⟨trivial,fun h=>(by cases h),(callsIn_wide.2 (Lq _ _ _)).mono ?_⟩
   rintro e w2 ⟨rfl,rfl⟩
   have hlen:pre.length<N:=by
    have:=congrArg List.length hp;rw[sw (s:=x::rest) (by simp)] at this
    simp at this;omega
   have hpl:=HO (x::rest);have hrest:=xa (s:=x::rest) (by simp)
   obtain⟨fn,tmps,assign,body,hy,hR⟩:=hY pre ⟨lI (x::rest),uA hra,by omega⟩ w2 hJ1 hlen
   have hpn:fH s0=(pre++[⟨lI (x::rest),uA hra,by omega⟩]:List PA).map (·.1)++fH (ka (x::rest)):=by
    rw[hp,sw (by simp)]; simp
   obtain⟨c,hc⟩:∃c,(lj (x::rest)).1=c:=⟨_,rfl⟩;have hix:=index_le c 47
   by_cases hi:Lib.indexByte c 47<0
   ·have he:lI (x::rest)=(c,(lj (x::rest)).2):=by simp[lI,hc,A3,hi]
    have hre:ka (x::rest)=[]:=by simp[ka,hc,A3,hi]
    simp only[Rj,he] at hy;rw[hc];have hi':Lib.indexByte (bs c).data.toList 47<0:=hi
    gi_wp2
    refine⟨fun h=>(by cases h),hR.mono ?_⟩
    rintro e W3 (⟨rfl,hJ3,hk3⟩|⟨rfl,hJx3⟩)
    ·have hb3:Boxed W3 b0 9 (.string (bs (x::rest))):=hk3.trans hb1;have hc3:=hb3.cell;have hf3:=hb3.frozen
     gi_wp2
     go_roundw
     case rel =>
      exact⟨_,ka (x::rest),(by rw[hre]; exact(hb3.set _)),vI hra,by omega,hpn,hJc _ _ _ hJ3⟩
     case measure =>
      rw[nG (s:=ka (x::rest)) (by rw[hre]; exact(hb3.set _)),nG hbr]
      exact hrest
    ·gi_wp2
     refine bodyPost_ret (results_none rfl _ _ _) rfl ?_;exact⟨⟨_,rfl⟩,.inr ⟨_,⟨fH (ka (x::rest)),hpn.symm⟩,hJx3⟩⟩
   ·have hi0:0<=Lib.indexByte c 47:=by omega
    have he:lI (x::rest)=(c.take (Lib.indexByte c 47).toNat,(lj (x::rest)).2):=by simp[lI,hc,A3,hi]
    have hre:ka (x::rest)=c.drop (Lib.indexByte c 47).toNat:=by simp[ka,hc,A3,hi]
    simp only[Rj,he] at hy;rw[show bs (c.take (Lib.indexByte c 47).toNat)=(bs c).extract 0 (Lib.indexByte (bs c).data.toList 47).toNat by rw[qT]; rfl] at hy
    rw[hc];have hi':¬Lib.indexByte (bs c).data.toList 47<0:=hi;have hi2:Lib.indexByte (bs c).data.toList 47<=(bs c).size:=hix
    gi_wp2
    refine⟨fun h=>(by cases h),hR.mono ?_⟩
    rintro e W3 (⟨rfl,hJ3,hk3⟩|⟨rfl,hJx3⟩)
    ·have hb3:Boxed W3 b0 9 (.string (bs (x::rest))):=hk3.trans hb1;have hc3:=hb3.cell;have hf3:=hb3.frozen
     gi_wp2
     go_roundw
     case rel =>
      exact⟨_,ka (x::rest),(by rw[hre,EM]; exact(hb3.set _)),vI hra,by omega,hpn,hJc _ _ _ hJ3⟩
     case measure =>
      rw[nG (s:=ka (x::rest)) (by rw[hre,EM]; exact(hb3.set _)),nG hbr]
      exact hrest
    ·gi_wp2
     refine bodyPost_ret (results_none rfl _ _ _) rfl ?_;exact⟨⟨_,rfl⟩,.inr ⟨_,⟨fH (ka (x::rest)),hpn.symm⟩,hJx3⟩⟩
def xx(x:Bytes×Bool)(n:Nat):Bool := !x.2 || !cr x.1||n==12
def iG:List (Bytes×Bool)->Nat->Option (List Bytes)
 | [],_=>some []
 |x::r,n=>if xx x n=true then none else (iG r (n+1)).map (x.1 :: ·)
def uk:∀(a b:List (Bytes×Bool)) (n:Nat),iG (a++b) n=(iG a n).bind fun l=>(iG b (n+a.length)).map (l ++ ·):=by
 intro a;induction a with
 |nil=>intro b n; simp[iG]
 |cons x r ih =>
  intro b n;simp only[List.cons_append,iG];split
  ·rfl
  ·rw[ih,show n+1+r.length=n+(x::r).length by simp; omega]
   cases iG r (n+1) with
   |none=>rfl
   |some l=>simp; rfl
def cJ(s:Bytes):List Bytes×Int:=if s=[47] then ([],0) else match iG (fH s) 0 with
 |none=>([],60)
 |some []=>([],60)
 |some l=>(l,0)
def Fi(pre:List PA):Prop:=iG (pre.map (·.1)) 0=some (pre.map (·.1.1))/\pre.length<=12
def DS{pre:List PA}{x:PA}(h:Fi pre)(hb:xx x.1 pre.length=false):Fi (pre++[x]):=by
 refine⟨?_,?_⟩
 ·rw[List.map_append,uk,h.1];simp[iG,hb]
 ·have:pre.length≠12:=by intro e; rw[e] at hb; simp[xx] at hb
  have:=h.2;simp; omega
def tg{pre:List PA}{x:PA}(h:Fi pre)(hb:xx x.1 pre.length=true):iG ((pre++[x]).map (·.1)) 0=none:=by
 rw[List.map_append,uk,h.1];simp[iG,hb]
def HX{a l:List (Bytes×Bool)}(h:a <+: l)(hn:iG a 0=none):iG l 0=none:=by
 obtain⟨b,rfl⟩:=h;rw[uk,hn]; rfl
def adU:(Tryz.prog.info? 9).map (fun i=>(i.zero,i.size,i.bytes))=some (some (.string ⟨#[]⟩),1,16):=by kernel_rfl
abbrev zx(b:Bytes):Value := .string (bs b)
def appended{W w1:World}{n₀ B:Nat}{v v':Value}{k m:Nat}{xs ys:List Value}{tmp:Obj}
  (hv:Boxed W B 43 v) (hrow:W.ownsRow n₀ 9 1 v k xs) (hown':w1.ownsRow n₀ 9 1 v' m ys) (hgrow:(W.alloc tmp).grownBy w1 v.ownBlock) :
  Boxed w1 B 43 v/\Boxed (w1.setCell ⟨B,0,none⟩ v') B 43 v'/\(w1.setCell ⟨B,0,none⟩ v').ownsRow n₀ 9 1 v' m ys/\KeepsOthers W (w1.setCell ⟨B,0,none⟩ v') /\
  (w1.setCell ⟨B,0,none⟩ v').os=W.os/\(w1.setCell ⟨B,0,none⟩ v').tape=W.tape/\(w1.setCell ⟨B,0,none⟩ v').output=W.output/\W.heap.size<=(w1.setCell ⟨B,0,none⟩ v').heap.size /\
  ∀q,q<n₀->q<W.heap.size->q≠B->(w1.setCell ⟨B,0,none⟩ v').heap[q]?=W.heap[q]?:=by
 have hv1:Boxed w1 B 43 v:=(hv.alloc tmp).kept hgrow (hv.not_row (by decide) hrow)
 have hs:=grownBy_setCell' w1 B v';refine⟨hv1,hv1.set v',hown'.kept hs (.inr (hv1.not_row (by decide) hown').symm),?_,?_,?_,?_,?_,?_⟩
 ·refine((KeepsOthers.alloc W tmp).trans (KeepsOthers.of_grownBy hgrow fun j o ej hj=>?_)).trans (KeepsOthers.setCell _ _ _)
  rcases(hrow.alloc tmp).2 with ⟨rfl,_⟩|⟨g,cap,cur,rfl,_,hgb,_⟩
  ·simp[Value.ownBlock] at ej
  ·obtain rfl:g=j:=by simpa[Value.ownBlock] using ej
   rw[hgb] at hj; cases hj; rfl
 ·exact hs.os.trans hgrow.os
 ·exact hs.tape.trans hgrow.tape
 ·exact hs.output.trans hgrow.output
 ·have h1:=hgrow.size;have h2:=hs.size;simp at h1;omega
 ·intro q hq hqw hqB;have hlt:q<(W.alloc tmp).heap.size:=by simp; omega
  rw[hs.block q (Nat.lt_of_lt_of_le hlt hgrow.size) (fun e=>hqB (by cases e; rfl)),hgrow.block q hlt ?_]
  ·exact Below.heap_alloc _ _ _ hqw
  ·intro e;rcases hrow.2 with ⟨rfl,_⟩|⟨g,cap,cur,rfl,hb,_,_⟩
   ·simp[Value.ownBlock] at e
   ·obtain rfl:q=g:=by simpa[Value.ownBlock] using e
    omega
structure xv(w:World)(pre:List PA)(W:World):Prop where
 zz:Fi pre
 r0:Boxed W w.heap.size 43 (.slice none 0 0)
 r1:Boxed W (w.heap.size+1) 42 (.int .i64 0)
 row:∃v,Boxed W (w.heap.size+2) 43 v/\W.ownsRow (w.heap.size+4) 9 1 v pre.length (pre.map fun x=>zx x.1.1)
 below:Below w.heap.size w W
 sz:w.heap.size+4<=W.heap.size
structure zj(w:World)(c:Code)(pre:List PA)(W:World):Prop where
 ret:c = .ret
 bad:iG (pre.map (·.1)) 0=none
 r0:Boxed W w.heap.size 43 (.slice none 0 0)
 r1:Boxed W (w.heap.size+1) 42 (.int .i64 60)
 below:Below w.heap.size w W
def lf{W W':World}{row:Option Nat}{B k:Nat}{t:TypeId}{v:Value}(h:Boxed W B t v)(hg:W.grownBy W' row)(hr:∀r,row=some r->k<=r/\∃o:Obj,W.heap[r]?=some o/\o.isCells=false):Boxed W' B t v :=
 h.kept hg fun e=>by obtain⟨_,o,ho,hc⟩:=hr B e.symm; rw[show W.heap[B]?=_ from h] at ho; cases ho; cases hc
def xv.own{w:World}:OwnFrom (w.heap.size+4) (xv w):=fun s A B row hs hg hr=>by
 obtain⟨v,hv,hrow⟩:=hs.row;exact⟨hs.zz,lf hs.r0 hg hr,lf hs.r1 hg hr,⟨v,lf hv hg hr,((holdsRow_own (β:=Unit) (w.heap.size+4) (w.heap.size+2) 43 9 1 (fun _=>s.length) (fun _=>s.map fun x=>zx x.1.1) (fun _ u=>u=v)) () A B row ⟨v,hv,hrow,rfl⟩ hg (fun r e=>(hr r e).2)).elim fun u hu=>hu.2.2▸hu.2.1⟩,ownFrom_below (β:=Unit) (Nat.le_refl _) (by omega) () A B row hs.below hg hr,Nat.le_trans hs.sz hg.size⟩
def zj.own{w:World}(c:Code):OwnFrom (w.heap.size+4) (zj w c):=fun s A B row hs hg hr =>
 ⟨hs.ret,hs.bad,lf hs.r0 hg hr,lf hs.r1 hg hr,ownFrom_below (β:=Unit) (Nat.le_refl _) (by omega) () A B row hs.below hg hr⟩
def xv.cell{w:World}(s:List PA)(A:World)(u:Value)(hs:xv w s A):xv w s (A.setCell ⟨w.heap.size+3,0,none⟩ u):=by
 obtain⟨v,hv,hrow⟩:=hs.row;have hg:=grownBy_setCell' A (w.heap.size+3) u;refine⟨hs.zz,hs.r0.other (by omega) _,hs.r1.other (by omega) _,⟨v,hv.other (by omega) _,hrow.kept hg ?_⟩,hs.below.setCell (p:=⟨w.heap.size+3,0,none⟩) (by simp) _,Nat.le_trans hs.sz hg.size⟩
 rcases hrow.2 with ⟨rfl,_⟩|⟨g,cap,cur,rfl,hb,_,_⟩
 ·exact .inl rfl
 ·refine .inr fun e=>?_
  have:g=w.heap.size+3:=by simpa[Value.ownBlock] using e
  omega
def zj.made{w W:World}{pre:List PA}(h0:Boxed W w.heap.size 43 (.slice none 0 0))(h1:Boxed W (w.heap.size+1) 42 (.int .i64 0))(hb:Below w.heap.size w W)(hbad:iG (pre.map (·.1)) 0=none) :
  KeepsOthers W ((W.setCell ⟨w.heap.size,0,none⟩ (.slice none 0 0)).setCell ⟨w.heap.size+1,0,none⟩ (.int .i64 60))/\zj w .ret pre ((W.setCell ⟨w.heap.size,0,none⟩ (.slice none 0 0)).setCell ⟨w.heap.size+1,0,none⟩ (.int .i64 60)):=by
 refine⟨(KeepsOthers.setCell _ _ _).trans (KeepsOthers.setCell _ _ _),rfl,hbad,(h0.set _).other (by omega) _,?_,(hb.setCell (p:=⟨w.heap.size,0,none⟩) (Nat.le_refl _) _).setCell (p:=⟨w.heap.size+1,0,none⟩) (by simp) _⟩
 exact(h1.other (by omega) _).set _
def uf{W:World}{n₀ k:Nat}{v:Value}{xs:List Value}(h:W.ownsRow n₀ 9 1 v k xs):∃p cap,v = .slice p k cap:=by
 rcases h.2 with ⟨rfl,rfl⟩|⟨g,cap,cur,rfl,_⟩
 ·exact⟨_,_,rfl⟩
 ·exact⟨_,_,rfl⟩
def TU{W:World}{n₀ n₁ k D:Nat}{v:Value}{xs:List Value}{x:Option (List Deferred)}{o:Obj}(h:W.ownsRow n₀ 9 1 v k xs)(hn:n₁<=n₀)(hD:W.heap[D]?=some (.deferred x)):(W.putObj D o).ownsRow n₁ 9 1 v k xs:=by
 refine⟨h.1,?_⟩;rcases h.2 with h0|⟨g,cap,cur,e,hb,hg,hr⟩
 ·exact .inl h0
 ·refine .inr ⟨g,cap,cur,e,by omega,?_,hr⟩
  exact(World.putObj_heap_other (fun e=>by subst e; rw[hD] at hg; cases hg)).trans hg
def Cq{W:World}{n₀ k B:Nat}{v:Value}{xs:List Value}(h:W.ownsRow n₀ 9 1 v k xs)(hB:B<n₀)(u:Value):(W.setCell ⟨B,0,none⟩ u).ownsRow n₀ 9 1 v k xs:=by
 refine⟨h.1,?_⟩;rcases h.2 with h0|⟨g,cap,cur,e,hb,hg,hr⟩
 ·exact .inl h0
 ·exact .inr ⟨g,cap,cur,e,hb,(Below.heap_setCell _ _ _ _ (by show _≠B; omega)).trans hg,hr⟩
def kS{W:World}{B D:Nat}{t:TypeId}{v:Value}{x:Option (List Deferred)}{o:Obj}(h:Boxed W B t v)(hD:W.heap[D]?=some (.deferred x)):Boxed (W.putObj D o) B t v :=
 (World.putObj_heap_other (fun e=>by subst e; rw[show W.heap[B]?=_ from h] at hD; cases hD)).trans h
def ti{w W:World}{D:Nat}{o:Obj}(h:Below w.heap.size w W)(hD:w.heap.size<=D):Below w.heap.size w (W.putObj D o) :=
 ⟨h.os,h.tape,h.output,by simpa[World.putObj] using h.size,fun k hk=>(World.putObj_heap_other (by omega)).trans (h.block k hk)⟩
def pI{W:World}{B D:Nat}{o:Obj}{u:Value}(h:W.heap[D]?=some o)(hB:D≠B):(W.setCell ⟨B,0,none⟩ u).heap[D]?=some o:=(Below.heap_setCell _ _ _ _ (by show _≠B; omega)).trans h
def results144{W:World}{b:Nat}{v u:Value}{tmps:Array Value}(h2:tmps[2]?=some (.pointer (some ⟨b,0,none⟩)))(h3:tmps[3]?=some (.pointer (some ⟨b+1,0,none⟩)))(hv:Boxed W b 43 v)(hu:Boxed W (b+1) 42 u):(results Tryz.f144 tmps).run Tryz.prog W = .ok (.tuple #[v,u]) W:=by
 have c0:=hv.cell;have c1:=hu.cell;simp[results,Tryz.f144,go_sem,c0,c1,h2,h3]
def oV{F:Fence}{n:Nat}{P:Program}{fn:Func}{tmps:Array Value}{R:Ending->World->Prop}{D:Nat}{W W':World}{v:Value}(hD:(Instr.takeDeferred D).run P W = .ok [] W')(hv:(results fn tmps).run P W' = .ok v W')(hR:R (.returned v) W') :
  LeavesInM F n P fn tmps R [{ target := .collected D,args := #[] }] .returning W :=
 ⟨by simp,.inl ⟨D,W',rfl,hD,⟨v,hv,hR⟩⟩⟩
set_option maxRecDepth 100000 in
set_option maxHeartbeats 2000000 in
def Qf(n:Nat)(hn:6<=n)(s:Bytes)(ha:gu s)(hs:s.length<=100000)(w:World) :
  CallsIn Fence.wide n Tryz.prog 144 #[.string (bs s)] w fun e W'=>∃v,e = .returned (.tuple #[v,.int .i64 (cJ s).2])/\W'.ownsRow w.heap.size 9 1 v (cJ s).1.length ((cJ s).1.map zx)/\Below w.heap.size w W':=by
 have h1:1<=n:=by omega
 obtain⟨i0,hi,hz0,hz1,hz2⟩:=info_parts adU;refine callsIn_of_wp_marks Tryz.func144 rfl trivial ?_ rfl;simp only[Tryz.ntmps144,List.size_toArray,List.length_cons,List.length_nil,Nat.reduceAdd,Nat.reduceSub,Array.replicate_succ,Array.replicate_zero,List.push_toArray,List.append_toArray,List.nil_append,List.cons_append];have b0:=Boxed.new w 43 (.slice none 0 0);have b1:=Boxed.new (w.alloc (.cells #[.slice none 0 0] 43)) 42 (.int .i64 0);have b2:=Boxed.new ((w.alloc (.cells #[.slice none 0 0] 43)).alloc (.cells #[.int .i64 0] 42)) 43 (.slice none 0 0);have b3:=Boxed.new (((w.alloc (.cells #[.slice none 0 0] 43)).alloc (.cells #[.int .i64 0] 42)).alloc (.cells #[.slice none 0 0] 43)) 9 (.string (bs s));simp only[World.size_alloc] at b1 b2 b3;have hB2:Below w.heap.size w ((w.alloc (.cells #[.slice none 0 0] 43)).alloc (.cells #[.int .i64 0] 42)):=((Below.refl _ w).alloc (Nat.le_refl _) _).alloc (by simp) _
 have hB4:=(hB2.alloc (by simp; omega) (.cells #[.slice none 0 0] 43)).alloc (by simp; omega) (.cells #[.string (bs s)] 9)
 by_cases hs47:s=[47]
 ·subst hs47;have ht:((bs [47]).toList==[47])=true:=by rw[mP]; rfl
  gi_wp2
  have c0:=(b0.alloc (.cells #[.int .i64 0] 42)).cell;have c1:=b1.cell;refine⟨.tuple #[.slice none 0 0,.int .i64 0],?_,_,rfl,World.ownsRow_nil _ _ _ _,hB2⟩;simp[results,Tryz.f144,go_sem,c0,c1]
 have ht:((bs s).toList==[47])=false:=by rw[mP]; simpa using hs47
 gi_wp2
 refine⟨trivial,(HP _ s _).mono ?_⟩;rintro e w' ⟨rfl,rfl⟩
 gi_wp2
 obtain⟨W4,hW4⟩:∃W4,(((w.alloc (.cells #[.slice none 0 0] 43)).alloc (.cells #[.int .i64 0] 42)).alloc (.cells #[.slice none 0 0] 43)).alloc (.cells #[.string (bs s)] 9)=W4:=⟨_,rfl⟩;have hsz:W4.heap.size=w.heap.size+4:=by rw[<-hW4]; simp
 have e0:Boxed W4 w.heap.size 43 (.slice none 0 0):=by rw[<-hW4]; exact((b0.alloc _).alloc _).alloc _
 have e1:Boxed W4 (w.heap.size+1) 42 (.int .i64 0):=by rw[<-hW4]; exact(b1.alloc _).alloc _
 have e2:Boxed W4 (w.heap.size+2) 43 (.slice none 0 0):=by rw[<-hW4]; exact b2.alloc _
 rw[hW4] at b3 hB4 ⊢
 have hseq:xK (w.heap.size+3) Fence.wide (n-1) Tryz.prog 272 #[.pointer (some ⟨w.heap.size+3,0,none⟩)] Rj (fun A B=>B.heap[w.heap.size+3]?=A.heap[w.heap.size+3]?) (fun xs=>xs.map (·.1)=fH s) (fun pre=>pre.map (·.1) <+: fH s) (fH s).length W4 :=
  fun l J Jx W hW hJ hJx hJc hY h0=>RF (n-1) (by omega) l _ _ s ha hs (Nat.le_refl _) J Jx W hJ hJc hY ((hW.block _ (by omega)).trans b3) h0
 refine pX (b0:=w.heap.size+3) (by omega) rfl h1 (gf:=272) (lb := #[.pointer (some ⟨w.heap.size+3,0,none⟩)]) rfl trivial (enters_of Tryz.func272 (by kernel_rfl) rfl) hseq
  (fun h k=>k.trans h) (fun W l o o' hl _ _ _=>World.putObj_heap_other (by omega)) (Below.refl _ _) (fun _=>rfl)
  (xv w) (zj w) (by rw[hsz]; exact xv.own) (fun c=>by rw[hsz]; exact zj.own c) xv.cell
  ⟨⟨rfl,by simp⟩,e0,e1,⟨_,e2,World.ownsRow_nil _ _ _ _⟩,hB4,by omega⟩
  (fun x=>{ tmps := #[.string (bs s),undef,.pointer (some ⟨w.heap.size,0,none⟩),.pointer (some ⟨w.heap.size+1,0,none⟩),.pointer (some ⟨w.heap.size+1+1,0,none⟩),.string (bs x.1.1),.bool x.1.2,.string (bs s),.bool false,.string (bs s),.func (.func 272) #[] #[.pointer (some ⟨w.heap.size+1+1+1,0,none⟩)],.string (bs x.1.1),.bool x.1.2,
   undef,undef,undef,undef,undef,undef,undef,undef,undef,undef,undef,undef,undef,undef,undef,undef,undef,undef,undef,undef],defers:=[] }) ?assign ?body ?done ?stop
 case assign =>
  intro l x W K hK
  gi_wp2
  exact hK
 case body =>
  rintro l pre ⟨⟨nm,ok⟩,hxa,hxl⟩ W hInv hlt;obtain⟨v,hv,hrow⟩:=hInv.row;have hc0:=hInv.r0.cell;have hf0:=hInv.r0.frozen;have hc1:=hInv.r1.cell;have hf1:=hInv.r1.frozen;cases ok with
  |false =>
   gi_wp2
   refine⟨trivial,?_⟩
   gi_wp2
   exact zj.made hInv.r0 hInv.r1 hInv.below (tg hInv.zz (by simp[xx]))
  |true =>
   gi_wp2
   refine⟨trivial,fun h=>(by cases h),(CallsIn.inRound l (callsIn_wide.2 (PS nm hxl hxa W))).mono ?_⟩
   rintro e W5 ⟨rfl,hg5⟩;have hInv5:xv w pre W5:=xv.own pre W W5 none hInv hg5 (fun r e=>by cases e)
   have hK5:KeepsOthers W W5:=KeepsOthers.of_grownBy hg5 (fun j o e=>by cases e)
   clear hc0 hf0 hc1 hf1 hrow hv v;obtain⟨v,hv,hrow⟩:=hInv5.row;have hc0:=hInv5.r0.cell;have hf0:=hInv5.r0.frozen;have hc1:=hInv5.r1.cell;have hf1:=hInv5.r1.frozen;have hc2:W5.cell? ⟨w.heap.size+1+1,0,none⟩=some v:=hv.cell;have hf2:W5.frozen? ⟨w.heap.size+1+1,0,none⟩=false:=hv.frozen;cases hnm:cr nm with
   |false =>
    gi_wp2
    have:=zj.made hInv5.r0 hInv5.r1 hInv5.below (tg (x:=⟨(nm,true),hxa,hxl⟩) hInv5.zz (by simp[xx,hnm]))
    exact⟨hK5.trans this.1,this.2⟩
   |true =>
    obtain⟨p,cap,rfl⟩:=uf hrow
    by_cases hl:pre.length=12
    ·have hl':((pre.length:Int)==12)=true:=by simp[hl]
     gi_wp2
     have:=zj.made hInv5.r0 hInv5.r1 hInv5.below (tg (x:=⟨(nm,true),hxa,hxl⟩) hInv5.zz (by simp[xx,hnm,hl]))
     exact⟨hK5.trans this.1,this.2⟩
    ·have hl':((pre.length:Int)==12)=false:=by simp; omega
     gi_wp2_with (gi_at_builtin; generalize hX:wpListIn _ _ _ _ _ _ _ _=X)
     subst hX;refine wpListIn_append_own _ rfl _ _ 43 rfl (w.heap.size+4) 9 i0 (.string ⟨#[]⟩) 1 16 Tryz.underlying43 hi hz0 hz1 hz2 rfl (by decide) _ _ _ rfl (hrow.alloc _) ⟨W5.heap.size,0,none⟩ 1 1 [zx nm] rfl rfl (cell_one_new _ _ _) (by simp[Value.oneCell']) (by have:=hInv5.zz.2; simp[maxLen]; omega) (by have:=hInv5.zz.2; omega) (by have:=hv.lt; simp; omega) ?_
     intro v' w1 hown' hgrow hiff;obtain⟨q0,q1,q2,q3,q4,q5,q6,q7,q8⟩:=appended hv hrow hown' hgrow;have hc2':w1.cell? ⟨w.heap.size+1+1,0,none⟩=some (.slice p pre.length cap):=q0.cell;have hf2':w1.frozen? ⟨w.heap.size+1+1,0,none⟩=false:=q0.frozen;obtain⟨p',cap',rfl⟩:=uf hown'
     gi_wp2
     refine⟨hK5.trans q3,(q8 _ (by omega) (by have:=hInv5.sz; omega) (by omega)).trans (hg5.block _ (by have:=hInv.sz; omega) (by simp)),?_⟩
     refine⟨DS hInv5.zz (by simp[xx,hnm,hl]),(q8 _ (by omega) hInv5.r0.lt (by omega)).trans hInv5.r0,(q8 _ (by omega) hInv5.r1.lt (by omega)).trans hInv5.r1,⟨_,q1,by simpa using q2⟩,?_,Nat.le_trans hInv5.sz q7⟩
     exact hInv5.below.trans ⟨q4,q5,q6,q7,fun q hq=>q8 q (by omega) (by have:=hInv5.below.size; omega) (by omega)⟩
 case done =>
  rintro D ys W hD hys hInv hK;obtain⟨v,hv,hrow⟩:=hInv.row;have hc0:=hInv.r0.cell;have hf0:=hInv.r0.frozen;have hc1:=hInv.r1.cell;have hf1:=hInv.r1.frozen;have hc2:W.cell? ⟨w.heap.size+1+1,0,none⟩=some v:=hv.cell;have hf2:W.frozen? ⟨w.heap.size+1+1,0,none⟩=false:=hv.frozen;obtain⟨p,cap,rfl⟩:=uf hrow
  by_cases hl:ys.length=0
  ·have hl':((ys.length:Int)==0)=true:=by simp[hl]
   have hy:ys=[]:=List.length_eq_zero_iff.1 hl
   have hsp:cJ s=([],60):=by
    rw[hy] at hys;simp[cJ,hs47,<-hys,iG]
   gi_wp2
   have hm:=pI (u := .int .i64 60) (pI (u := .slice none 0 0) hK (B:=w.heap.size) (by omega)) (B:=w.heap.size+1) (by omega)
   have k0:Boxed ((W.setCell ⟨w.heap.size,0,none⟩ (.slice none 0 0)).setCell ⟨w.heap.size+1,0,none⟩ (.int .i64 60)) w.heap.size 43 (.slice none 0 0):=(hInv.r0.set _).other (by omega) _
   have k1:Boxed ((W.setCell ⟨w.heap.size,0,none⟩ (.slice none 0 0)).setCell ⟨w.heap.size+1,0,none⟩ (.int .i64 60)) (w.heap.size+1) 42 (.int .i64 60):=(hInv.r1.other (by omega) _).set _
   refine oV (run_takeDeferred hm) (results144 rfl rfl (kS k0 hm) (kS k1 hm)) ⟨_,rfl,World.ownsRow_nil _ _ _ _,ti ((hInv.below.setCell (p:=⟨w.heap.size,0,none⟩) (Nat.le_refl _) _).setCell (p:=⟨w.heap.size+1,0,none⟩) (by simp) _) (by omega)⟩
  ·have hl':((ys.length:Int)==0)=false:=by rw[beq_eq_false_iff_ne]; omega
   have hsp:cJ s=(ys.map (·.1.1),0):=by
    have h0:=hInv.zz.1;rw[hys] at h0;cases ys with
    |nil=>simp at hl
    |cons y ys=>simp[cJ,hs47,h0]
   gi_wp2
   have hm:=pI (u := .int .i64 0) (pI (u := .slice p ys.length cap) hK (B:=w.heap.size) (by omega)) (B:=w.heap.size+1) (by omega)
   have k0:Boxed ((W.setCell ⟨w.heap.size,0,none⟩ (.slice p ys.length cap)).setCell ⟨w.heap.size+1,0,none⟩ (.int .i64 0)) w.heap.size 43 (.slice p ys.length cap):=(hInv.r0.set _).other (by omega) _
   have k1:Boxed ((W.setCell ⟨w.heap.size,0,none⟩ (.slice p ys.length cap)).setCell ⟨w.heap.size+1,0,none⟩ (.int .i64 0)) (w.heap.size+1) 42 (.int .i64 0):=(hInv.r1.other (by omega) _).set _
   refine oV (run_takeDeferred hm) (results144 rfl rfl (kS k0 hm) (kS k1 hm)) ⟨_,rfl,?_,ti ((hInv.below.setCell (p:=⟨w.heap.size,0,none⟩) (Nat.le_refl _) _).setCell (p:=⟨w.heap.size+1,0,none⟩) (by simp) _) (by omega)⟩
   have:=TU (Cq (Cq hrow (by omega:w.heap.size<_) (.slice p ys.length cap)) (by omega:w.heap.size+1<_) (.int .i64 0)) (by omega:w.heap.size<=_) hm (o := .deferred none)
   simpa[Function.comp_def] using this
 case stop =>
  rintro D c pre W hD hpre hOut hK;obtain rfl:=hOut.ret;have hsp:cJ s=([],60):=by simp[cJ,hs47,HX hpre hOut.bad]
  gi_wp2
  refine oV (run_takeDeferred hK) (results144 rfl rfl (kS hOut.r0 hK) (kS hOut.r1 hK)) ⟨_,rfl,World.ownsRow_nil _ _ _ _,ti hOut.below (by omega)⟩
def Qe(s:Bytes)(ha:gu s)(hs:s.length<=100000)(w:World) :
  Calls Tryz.prog 144 #[.string (bs s)] w fun e W'=>∃v,e = .returned (.tuple #[v,.int .i64 (cJ s).2])/\W'.ownsRow w.heap.size 9 1 v (cJ s).1.length ((cJ s).1.map zx)/\Below w.heap.size w W' :=
 callsIn_wide.1 (Qf 6 (by omega) s ha hs w)
end
end
instance (s:Bytes):Decidable (gu s):=inferInstanceAs (Decidable True)
def wW:List ae->aj->Option (ae×aj)
 | [.str s],M=>if gu s/\s.length<=100000 then some (.tuple [.slice .sh ((cJ s).1.map .str),.int .i64 (cJ s).2],M) else none
 |_,_=>none
def HY{args:List ae}{M:aj}{x:ae×aj}(h:wW args M=some x):bn Tryz.prog 144 args M x:=by
 unfold wW at h;split at h
 ·rename_i s;split at h
  ·rename_i hs;cases h;refine fS.call ?_;intro j w vs hr hG hl hv;obtain⟨u,rfl⟩:=vw hl;have h1:=(hv 0 _ u rfl rfl).eb;subst h1;refine(Qe s hs.1 hs.2 w).mono ?_;rintro e w' ⟨v,rfl,⟨hlen,hown⟩,hb⟩;refine⟨_,j,rfl,hr.grow hb.size hb.os hb.tape hb.output hb.block,Ext.grow hb.size hb.os hb.tape hb.output hb.block,.tuple rfl ?_⟩;intro i c v' hi hv'
   match i with
   |0 =>
    cases hi; cases hv';refine .plain ?_;rcases hown with ⟨rfl,h0⟩|⟨g,cap,cur,rfl,hg,hg',hn1,_,hcs,htk⟩
    ·rw[List.length_eq_zero_iff.1 h0];exact cg.nil _ _ _
    ·refine .slice _ _ _ _ g 0 1 (fun k=>zx ((cJ s).1.getD k [])) (by simp) (by simpa using hn1) (fun _=>rfl) ?_ ?_ ?_
     ·intro x hx;obtain⟨b,_,rfl⟩:=List.mem_map.1 hx;rfl
     ·intro i x k c hx hc;rw[List.getElem?_map] at hx;obtain⟨b,hb',rfl⟩:=Option.map_eq_some_iff.1 hx
      match k with
      |0 =>
       have hi:i<(cJ s).1.length:=(List.getElem?_eq_some_iff.1 hb').1;refine⟨?_,?_,?_,?_⟩
       ·have h1:cur.toList[i]?=some (zx b):=by
         have:(cur.toList.take ((cJ s).1.length*1))[i]?=some (zx b):=by rw[htk,List.getElem?_map,hb']; rfl
         rwa[List.getElem?_take_of_lt (by omega)] at this
        have h2:cur[i]?=some (zx b):=by simpa using h1
        have h3:(cJ s).1.getD i []=b:=by simp[List.getD,hb']
        simp only[Nat.mul_one,Nat.add_zero,Nat.zero_add];rw[h3];simp[World.cell?,hg',h2]
       ·exact lt_of_block hg'
       ·intro id hid hji;have:=hr.lt id g hid hji; omega
       ·intro hx; have:=hr.tb g _ hx; omega
      |k+1=>cases hc
     ·intro i x k c hx hc;rw[List.getElem?_map] at hx;obtain⟨b,hb',rfl⟩:=Option.map_eq_some_iff.1 hx
      match k with
      |0 =>
       cases hc;have h3:(cJ s).1.getD i []=b:=by simp[List.getD,hb']
       simp only[Nat.mul_one,Nat.add_zero];rw[h3];exact .str _
      |k+1=>cases hc
   |1=>cases hi; cases hv'; exact .plain (.int _ _)
   |i+2=>cases hi
  ·cases h
 ·cases h
end
end Go.Proofs.YtahkjijkflobhaaGreatDoor
