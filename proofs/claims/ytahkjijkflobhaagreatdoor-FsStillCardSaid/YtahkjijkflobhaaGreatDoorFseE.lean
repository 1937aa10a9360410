import Derived.Test.YtahkjijkflobhaaGreatDoorProg
import Derived.WalkKit
import Derived.LaidEql
import Derived.Stop.Asserts
import Derived.RowKitTokens
import Derived.KernelRfl
import Derived.Defers
import Derived.Recover
import Derived.Test.YtahkjijkflobhaaGreatDoorFseD
set_option linter.unusedSimpArgs false
set_option linter.unusedVariables false
set_option linter.unusedSectionVars false
set_option linter.defProp false
namespace Go.Proofs.YtahkjijkflobhaaGreatDoor
section
open Go Go.Abs
section
def zu{α:Type}:uF ([]:AM α)=[]:=rfl
def zw{α:Type}(enc:α->ae):ji enc ([]:AM α)=[]:=rfl
def acV{s:c8}{x:eX}{all:AM Node}{ino:Int}{st':VS}{b:Bool}(h:ag aH 157 [.int .i64 ino,.ptr 0 0,.ptr 1 0,.ptr 2 0,.ptr 3 0] (fJ all ([],[]))=some (.bool b,fJ all st')) :
  ar (ag aH) 157 [.int .i64 ino,.ptr 5 0,.ptr 3 0,.ptr 7 0,.ptr 8 0] (xE s x all ([],[]))=some (.bool b,xE s x all st'):=by
 have i1:iU (xE s x all ([],[])) [5,3,7,8]=[4,2,6,5,3,7,8]:=rfl
 have i2:iU (xE s x all ([],[])) [5,3,7,8,4,2,6]=[4,2,6,5,3,7,8]:=by
  show[4,2,6,5,3,7,8]++([]++((ji aF all).flatMap ae.ids++([]++[])))=_
  rw[adT]; rfl
 have e0:ef [] [5,3,7,8]=[5,3,7,8]:=rfl;have e1:ef [5,3,7,8] [4,2,6,5,3,7,8]=[5,3,7,8,4,2,6]:=rfl;have e2:ef [5,3,7,8,4,2,6] [4,2,6,5,3,7,8]=[5,3,7,8,4,2,6]:=rfl
 have hr:reach (xE s x all ([],[])) [5,3,7,8]=[5,3,7,8,4,2,6]/\eG (xE s x all ([],[])) [5,3,7,8,4,2,6]=[5,3,7,8,4,2,6]:=by
  simp only[reach,eG,e0,i1,e1,i2,e2,and_self]
 have hp:dK (xE s x all ([],[])) (da [5,3,7,8,4,2,6]) [5,3,7,8,4,2,6]=some (fJ all ([],[])):=by
  simp only[xE,dK,nth,aM.flat,flN,flU,aI,if_true,aM.iE,rnN,rnU];rfl
 refine eE (ids:=[5,3,7,8,4,2,6]) rfl hr.1 hp hr.2 rfl h rfl rfl (UG all st') rfl ?_;simp only[fJ,xE,eW,aM.iE,rnN,rnU,dA];rfl
def ahn(n:Nat)(xs:List ae)(b0 b1 b2 b3 b4 b5 b7 b8:aM):dK [b0,b1,b2,b3,b4,b5,.arr 6 n xs,b7,b8] (da [6]) [6]=some [.arr 6 n xs]:=rfl
def HQ{l:List Node}(hl:l.length<=1000000)(hn:(l.map Node.ino).Nodup):ag aH 158 [.aW 0 l.length 6 0 l.length,.func 159 []] [.arr 6 l.length (l.map aF)]=some (.tuple [],[.arr 6 l.length ((uX l).map aF)]):=by
 refine bR (g:=mi 6 0 159) rfl ?_;unfold mi;simp only[nth];have ht:(l.map aF).take l.length=l.map aF:=List.take_of_length_le (by simp)
 have hd:(l.map aF).drop l.length=[]:=List.drop_eq_nil_of_le (by simp)
 rw[ht,hd,xe,List.append_nil];rw[bo]
 ·rfl
 ·refine⟨trivial,trivial,trivial,by simp,trivial,by omega,?_,?_⟩
  ·intro x hx;obtain⟨n,_,rfl⟩:=List.mem_map.1 hx;rfl
  ·rw[List.map_map];exact hn
attribute [local irreducible] bS cz fu gK bG kr ag ar aQ aG
def BM(x:Node):∀l,(zC x l).length=l.length+1
 | []=>rfl
 |y::r=>by simp only[zC]; split<;>simp[BM x r]
def uj:∀l,(uX l).length=l.length
 | []=>rfl
 |x::r=>by simp[uX,BM,uj r]
def c84(s:c8)(x:eX)(hp:s.bq.length<=100000)(hpe:∀p,p∈s.bq->p.node.av.length<=100000)(hz:Sz 200 s.now)(hl:s.since.length=s.now.nodes.length) :
  ag aH 84 [iL s,eA x] []=some (.tuple [au (wx s x),.bool (pj s x).1],[]):=by
 refine ai ?_;obtain⟨g1,g2⟩:=o6 x.at' s.bq [] ⟨fun k n h=>(by cases h),fun k n h=>(by cases h)⟩ hpe
 obtain⟨g3,g4⟩:=tY x.at' s.now.nodes s.since (s.bq.foldl (fV x.at') []) g1 (fun n hn=>by have:=hz.av n hn; omega)
 have hall:(qQ s x.at').length<=100200:=by have:=hz.nodes; simp at g2; unfold qQ; omega
 have hv:=aju (all:=qQ s x.at') g3.own g3.av 200001 x.ino ([],[]) (by have:=nP (qQ s x.at') []; simp only; omega) (by have:=nP (qQ s x.at') []; simp only[List.length_nil]; omega)
 have hg:=pk (all:=qQ s x.at') g3.own 200001 x.ino ([],[]);have hnd:=(hg.nodup (by simp) (by simp)).1
 have hlen:(pj s x).2.2.length<=100200:=by have:=hg.len; have h2:=nP (qQ s x.at') []; simp only[List.length_nil] at this; unfold pj; omega
 have q:=acV (s:=s) (x:=x) hv;have hs:=HQ (l:=(pj s x).2.2) (by omega) hnd
 have q2:∀b0 b1 b2 b3 b4 b5 b7 b8,ar (ag aH) 158 [.aW 6 (pj s x).2.2.length 6 0 (pj s x).2.2.length,.func 159 []] [b0,b1,b2,b3,b4,b5,.arr 6 (pj s x).2.2.length ((pj s x).2.2.map aF),b7,b8] =
   some (.tuple [],[b0,b1,b2,b3,b4,b5,.arr 6 (pj s x).2.2.length ((wx s x).map aF),b7,b8]):=fun b0 b1 b2 b3 b4 b5 b7 b8 =>
  eE (ids:=[6]) rfl rfl (ahn _ _ ..) rfl rfl hs rfl rfl rfl rfl rfl
 have ht:List.take (pj s x).2.2.length ((wx s x).map aF)=(wx s x).map aF:=List.take_of_length_le (by simp[wx,uj])
 have l2:=Tv (s:=s) (x:=x) (by have:=hz.nodes; omega) hl (fin:=qQ s x.at') (r:=some (.tuple [au (wx s x),.bool (pj s x).1],[])) (k:=[.block 2,.seq ZM]) (fun e=>by
  clear g1 g2 g3 g4 hv hg hnd hs;have hvv:dM (qQ s x.at') 200001 x.ino ([],[])=pj s x:=rfl;rw[hvv] at q;generalize pj s x=v at q q2 ht hlen ⊢;obtain⟨b,met,out⟩:=v;simp only[xE,aE,cS,List.length_nil,List.map_nil,zu,zw] at q q2 ht;simp only[rZ,aE,cS,QP,q,q2,ht,EW,simprocAttr]) s.now.nodes [] s.since [] (s.bq.foldl (fV x.at') []) rfl rfl rfl rfl
 have l1:=Tu (s:=s) (x:=x) hp (fin:=s.bq.foldl (fV x.at') []) (r:=some (.tuple [au (wx s x),.bool (pj s x).1],[])) (k:=[.block 0,.seq ZN]) (fun e=>by
  simp only[rZ,aE,cS,List.length_nil] at l2;simp only[rZ,aE,cS,QP,EW,simprocAttr];exact l2) s.bq [] [] rfl rfl
 simp only[rZ,aE,cS,List.length_nil,zu,zw] at l1;simp only[WR,QP,iL,eA,aE,cS,EW,simprocAttr];exact l1
def k84(s:c8)(x:eX)(hp:s.bq.length<=100000)(hpe:∀p,p∈s.bq->p.node.av.length<=100000)(hz:Sz 200 s.now)(hl:s.since.length=s.now.nodes.length)(M:aj) :
  ar (ag aH) 84 [.agg (aE s),.agg (cS x)] M=some (.tuple [au (wx s x),.bool (pj s x).1],M):=cO (c84 s x hp hpe hz hl) M
def vh(s:c8)(id:Int):Int×List Node×Int:=match s.taken.find? (fun x=>x.id==id) with
 |some x=>(x.ino,wx s x,0)
 |none=>(0,[],100)
def SN{s:c8}{id:Int}(hk:s.taken.length<=100000)(hp:s.bq.length<=100000)(hpe:∀p,p∈s.bq->p.node.av.length<=100000)(hz:Sz 200 s.now)(hl:s.since.length=s.now.nodes.length) :
  ∀(l pre:List eX),s.taken=pre++l->bS (ag aH) [.tmp 4,.tmp 5,.tmp 6] 0 [.block 0,.seq Zv] (.loop [1,2,12,13,14] R3) [(1,.int .i64 id),(2,.ptr 0 0),(12,eN s.taken),(13,.int .i64 s.taken.length),(14,.int .i64 pre.length)] [.cells (aE s)] =
   some (match l.find? (fun x=>x.id==id) with|some x => .tuple [.int .i64 x.ino,au (wx s x),.int .i64 0]|none => .tuple [.int .i64 0,au [],.int .i64 100],[]):=by
 intro l;induction l with
 |nil =>
  intro pre h;rw[aC];simp only[QC,cQ h,List.find?_nil,aE,EW,simprocAttr];rfl
 |cons x rest ih =>
  intro pre h;rw[aC];have hlen:pre.length+1<=100000:=by rw[h] at hk; simp at hk; omega
  have hw:=ny pre x;have hi1:=ih (pre++[x]) (by rw[h]; simp)
  have q:=k84 s x hp hpe hz hl;simp only[List.length_append,List.length_cons,List.length_nil,Nat.zero_add,aE,cS] at hi1 q;rw[List.find?_cons];simp only[QC,cv h,bT h,aE,cS,EW,simprocAttr];cases he:x.id==id<;>simp only[QC,he,q,hw,EW,simprocAttr]
  exact hi1
def ajm(s:c8)(id:Int)(hk:s.taken.length<=100000)(hp:s.bq.length<=100000)(hpe:∀p,p∈s.bq->p.node.av.length<=100000)(hz:Sz 200 s.now)(hl:s.since.length=s.now.nodes.length) :
  ag aH 143 [iL s,.int .i64 id] []=some (.tuple [.int .i64 (vh s id).1,au (vh s id).2.1,.int .i64 (vh s id).2.2],[]):=by
 refine ai ?_;have hq:=SN (id:=id) hk hp hpe hz hl s.taken [] rfl;simp only[aE,List.length_nil] at hq;simp only[JS,QC,iL,aE,EW,simprocAttr];refine Eq.trans hq ?_;unfold vh;split<;>rfl
def aln(s:c8)(id:Int)(hk:s.taken.length<=100000)(hp:s.bq.length<=100000)(hpe:∀p,p∈s.bq->p.node.av.length<=100000)(hz:Sz 200 s.now)(hl:s.since.length=s.now.nodes.length)(M:aj) :
  ar (ag aH) 143 [.agg (aE s),.int .i64 id] M=some (.tuple [.int .i64 (vh s id).1,au (vh s id).2.1,.int .i64 (vh s id).2.2],M):=cO (ajm s id hk hp hpe hz hl) M
end
noncomputable def kN:rD:=⟨fun f=>if f=201 then some Bp else code f,fZ⟩
def T1:oC Tryz.prog kN:=by
 refine⟨fun f fn h=>?_,FR⟩
 simp only[kN] at h;split at h
 ·rename_i hf;cases h; subst hf;exact⟨_,_,Tryz.func201,agj⟩
 ·exact EX f fn h
def ZZ:im Tryz.prog (ag kN):=ma (by kernel_rfl) T1
def CH:∀n,nC (dN aH n) (dN kN n)
 |0,f,a,M,x,h=>by rw[dN] at h ⊢; exact h
 |n+1,f,a,M,x,h=>by
  rw[dN] at h ⊢;have hp:kN.fZ f=aH.fZ f:=rfl;rw[hp];split at h
  ·rename_i g hg; exact h
  ·rename_i hg;split at h
   ·cases h
   ·rename_i fn hfn
    have hc:kN.code f=some fn:=by
     simp only[kN];split
     ·rename_i hf; subst hf; cases hfn
     ·exact hfn
    rw[hc];split at h
    ·rename_i hl;simp only[if_pos hl];obtain⟨o,ho,h⟩:=az h;rw[dV (CH n) _ ho,aI];exact h
    ·cases h
def T3{f:Nat}{a:List ae}{M:aj}{x:ae×aj}(h:ag aH f a M=some x):ag kN f a M=some x:=by
 obtain⟨n,hn⟩:=nM h;exact gV (fun n x h=>jA kN n f a M x h) (CH n f a M x hn)
def lW{f:Nat}{vs:List ae}{M:aj}{x:ae×aj}(h:ar (ag aH) f vs M=some x):ar (ag kN) f vs M=some x:=by
 obtain⟨a,B,y,h1,h2⟩:=gS h;exact h2 _ (T3 h1)
def rY(t:Tree)(q:ba):Bool := !(find t.nodes q.ino).isSome
def eY(n:ba):(cZ n).all ae.dp=true:=rfl
def Zn(xs:List ae)(z:Tree):dK [.arr 3 0 xs,.cells (ak z)] (da [0,1]) [0,1]=some [.arr 3 0 xs,.cells (ak z)]:=rfl
section
def Zo(z:Tree):dK [.cells (ak z)] (da [0]) [0]=some [.cells (ak z)]:=rfl
section
attribute [local irreducible] bS cz fu gK bG kr ag ar aQ aG
def aj4(q:ba)(t:Tree)(ht:Rt t):ag kN 203 [bz q,.ptr 0 0] [.cells (ak t)]=some (.bool (rY t q),[.cells (ak t)]):=by
 refine ai ?_;have q1:=fun M=>lW (Qw t q.ino ht.small ht.fN M)
 unfold rY;simp only[an] at q1;simp only[Kv,aia,bz,cZ,ak,q1,an,xm,eY,EW,simprocAttr]
def aeh(q:ba)(t:Tree)(ht:Rt t)(p:Nat)(M:aj)(hM:nth M p=some (.cells (ak t))):ar (ag kN) 203 [.agg (cZ q),.ptr p 0] M=some (.bool (rY t q),M) :=
 pz (f:=203) (p:=p) (vs:=[.agg (cZ q)]) hM (aj4 q t ht) rfl rfl rfl rfl rfl rfl rfl rfl rfl
def tM(z:Tree):List ba->Nat->Int
 | [],_ => -1
 |e::r,i=>if rY z e=true then (i:Int) else tM z r (i+1)
def Tc{xs:List ba}{z:Tree}(hz:Rt z)(hn:xs.length<=100000){k:List K}{R:Int->Option (ae×aj)}
  (hx:∀e,kr (ag kN) [.tmp 4] 2 k ⟨.exit 0,e,[.arr 3 0 (xs.map bz),.cells (ak z)]⟩=R (-1)) (hr:∀(i:Nat),kr (ag kN) [.tmp 4] 2 k ⟨.ret,[(4,.int .i64 i)],[.arr 3 0 (xs.map bz),.cells (ak z)]⟩=R i) :
  ∀(l pre:List ba),xs=pre++l->bS (ag kN) [.tmp 4] 2 k (.loop [0,1,7,8] SC) [(0,.aW 0 0 3 0 xs.length),(1,.func 203 [.ptr 1 0]),(7,.int .i64 xs.length),(8,.int .i64 pre.length)] [.arr 3 0 (xs.map bz),.cells (ak z)]=R (tM z l pre.length):=by
 intro l;induction l with
 |nil =>
  intro pre h;rw[aC];simp only[zh,cQ h,xm,eY,EW,simprocAttr];exact hx _
 |cons n rest ih =>
  intro pre h;rw[aC];have hlen:pre.length+1<=100000:=by rw[h] at hn; simp at hn; omega
  have hw:=ny pre n;have hi:=ih (pre++[n]) (by rw[h]; simp)
  simp only[List.length_append,List.length_cons,List.length_nil] at hi;have q59:=fun e=>aeh e z hz 1 [.arr 3 0 (xs.map bz),.cells (ak z)] rfl
  have hlt:((pre.length:Int)<((xs.length-0:Nat):Int))=True:=by simp only[eq_iff_iff,iff_true]; rw[h]; simp; omega
  rw[tM];simp only[zh,cv h,bT h,tkQ,shQ,q59,hlt,xm,eY,EW,simprocAttr];refine aB (fun hb=>?_) (fun hb=>?_)
  ·simp only[zh,hb,xm,eY,EW,simprocAttr];exact hr _
  ·simp only[zh,hb,hw,Bool.false_eq_true,xm,eY,EW,simprocAttr];exact hi
def akD(xs:List ba)(z:Tree)(hz:Rt z)(hn:xs.length<=100000):ag kN 259 [.aW 0 0 3 0 xs.length,.func 203 [.ptr 1 0]] [.arr 3 0 (xs.map bz),.cells (ak z)]=some (.int .i64 (tM z xs 0),[.arr 3 0 (xs.map bz),.cells (ak z)]):=by
 refine ai ?_;simp only[Fh,zh,Nat.sub_zero,xm,eY,EW,simprocAttr];exact Tc hz hn (R:=fun i=>some (.int .i64 i,[.arr 3 0 (xs.map bz),.cells (ak z)])) (fun e=>by simp only[zh,xm,eY,EW,simprocAttr]) (fun i=>by simp only[zh,xm,eY,EW,simprocAttr]) xs [] rfl
def alJ(xs:List ba)(z:Tree)(hz:Rt z)(hn:xs.length<=100000):ar (ag kN) 259 [.aW 0 0 3 0 xs.length,.func 203 [.ptr 1 0]] [.arr 3 0 (xs.map bz),.cells (ak z)]=some (.int .i64 (tM z xs 0),[.arr 3 0 (xs.map bz),.cells (ak z)]) :=
 eE (ids:=[0,1]) rfl rfl (Zn ..) rfl rfl (akD xs z hz hn) rfl rfl rfl rfl rfl
def dS(z:Tree)(l:List ba):List ba:=l.filter fun e => !rY z e
def rf(z:Tree)(x:ba)(l:List ba):dS z (x::l)=if rY z x=true then dS z l else x::dS z l:=by
 unfold dS;rw[List.filter_cons];cases rY z x<;>rfl
def P8(xs:List ba)(b:Nat)(o n:ba)(h:xs[b]?=some o):(dA (xs.map bz) b (putCells (bz o) 0 (cZ n)))=(xs.set b n).map bz:=by
 have:putCells (bz o) 0 (cZ n)=bz n:=rfl;rw[this,cG,List.map_set]
def Zq(x:ba):(cZ x).all ae.plainCell=true:=rfl
def S3{z:Tree}(hz:Rt z){N:Nat}(hN:N<=100000){k:List K}{R:List ba->Nat->Option (ae×aj)}
  (hx:∀(A G:List ba) v q,A.length+G.length=N->G≠[]->kr (ag kN) [.tmp 4] 2 k ⟨.exit 0,[(0,.aW 0 0 3 0 N),(1,.func 203 [.ptr 1 0]),(5,.int .i64 A.length),(6,v),(19,q)],[.arr 3 0 ((A++G).map bz),.cells (ak z)]⟩=R A G.length) :
  ∀(T A G:List ba),A.length+G.length+T.length=N->G≠[]->bS (ag kN) [.tmp 4] 2 k (.loop [0,1,5,6] Sl) [(0,.aW 0 0 3 0 N),(1,.func 203 [.ptr 1 0]),(5,.int .i64 A.length),(6,.int .i64 ((A.length+G.length:Nat):Int))] [.arr 3 0 ((A++G++T).map bz),.cells (ak z)]=R (A++dS z T) (N-(A++dS z T).length):=by
 intro T;induction T with
 |nil =>
  intro A G hl hg;have hlt:(((A.length+G.length:Nat):Int)<((N-0:Nat):Int))=False:=by simp only[eq_iff_iff,iff_false]; simp at hl ⊢; omega
  have hk:dS z []=[]:=rfl;have hgl:N-(A++dS z []).length=G.length:=by rw[hk]; simp at hl ⊢; omega
  rw[hgl,hk,List.append_nil,List.append_nil];rw[aC];simp only[zf,hlt,xm,eY,EW,simprocAttr];exact hx A G _ _ (by simpa using hl) hg
 |cons x T ih =>
  intro A G hl hg;simp only[List.length_cons] at hl;have hlt:(((A.length+G.length:Nat):Int)<((N-0:Nat):Int))=True:=nj;have hnn:((0:Int)<=((A.length+G.length:Nat):Int))=True:=nj
  have hat:(A++G++x::T)[A.length+G.length]?=some x:=by
   rw[List.getElem?_append_right (by simp)]; simp
  have hw:IntKind.i64.wrap (((A.length+G.length:Nat):Int)+1)=((A.length+G.length+1:Nat):Int):=by rw[cL (by omega) (by omega)]; omega
  have hw1:IntKind.i64.wrap ((A.length:Int)+1)=((A.length+1:Nat):Int):=by rw[cL (by omega) (by omega)]; omega
  have q59:=fun e a b M=>aeh e z hz 1 (a :: .cells (ak z)::b::M) rfl
  obtain⟨g,G',hG⟩:=List.exists_cons_of_ne_nil hg;have hga:(A++G++x::T)[A.length]?=some g:=by rw[hG]; simp
  have hset:(A++G++x::T).set A.length x=(A++[x])++(G'++[x])++T:=by rw[hG]; simp
  have hlt2:((A.length:Int)<((N-0:Nat):Int))=True:=nj;have h1:=ih (A++[x]) (G'++[x]) (by rw[hG] at hl; simp at hl ⊢; omega) (by simp)
  have h2:=ih A (G++[x]) (by simp; omega) (by simp)
  have hl1:(((A++[x]).length+(G'++[x]).length:Nat):Int)=((A.length+G.length+1:Nat):Int):=by rw[hG]; simp; omega
  have hl2:((A.length+(G++[x]).length:Nat):Int)=((A.length+G.length+1:Nat):Int):=by simp; omega
  have hl3:((A++[x]).length:Int)=((A.length+1:Nat):Int):=by simp
  have e2:A++(G++[x])++T=A++G++x::T:=by simp
  have e1:A++[x]++dS z T=A++x::dS z T:=by simp
  rw[hl1,hl3,e1] at h1;rw[hl2,e2] at h2;simp only[List.length_append,List.length_cons] at h1 h2;have hput:=P8 (A++G++x::T) A.length g x hga;rw[hset] at hput;rw[rf];rw[aC];simp only[zf,hlt,hnn,hat,tkQ,shQ,IL,q59,xm,eY,EW,simprocAttr];refine aB (fun hb=>?_) (fun hb=>?_)
  ·have hb':rY z x=false:=by simpa using hb
   simp only[zf,hb',hlt2,hga,hput,tkQ,shQ,Zq,hw,hw1,Bool.false_eq_true,xm,eY,EW,simprocAttr];exact h1
  ·have hb':rY z x=true:=by simpa using hb
   simp only[zf,hb',hw,xm,eY,EW,simprocAttr];exact h2
def ED:ba:=⟨0,0,0⟩
def yk(z:Tree):∀(l:List ba)(i:Nat),tM z l i = -1->dS z l=l
 | [],_,_=>rfl
 |x::l,i,h=>by
  rw[tM] at h;split at h
  ·omega
  ·rename_i hx;rw[rf,if_neg hx,yk z l _ h]
def yl(z:Tree):∀(l:List ba)(i:Nat),tM z l i ≠ -1->∃A x T,l=A++x::T/\tM z l i=((i+A.length:Nat):Int)/\dS z l=A++dS z T
 | [],_,h=>absurd rfl h
 |x::l,i,h=>by
  rw[tM] at h ⊢;rw[rf];split
  ·rename_i hx; exact⟨[],x,l,rfl,rfl,rfl⟩
  ·rename_i hx;rw[if_neg hx] at h;obtain⟨A,y,T,h1,h2,h3⟩:=yl z l (i+1) h;exact⟨x::A,y,T,by rw[h1]; rfl,by rw[h2]; simp; omega,by rw[h3]; rfl⟩
def HS(m:Nat):ae:=if m=0 then .slice .sh [] else .aW 0 0 3 0 m
def GC(A G:List ba):((A++G).map bz).take A.length++(List.replicate G.length (ae.agg [.int .i64 0,.int .i64 0,.int .i64 0])++((A++G).map bz).drop (A++G).length)=(A++List.replicate G.length ED).map bz:=by
 have h1:((A++G).map bz).take A.length=A.map bz:=by simp[List.take_append_of_le_length]
 have h2:((A++G).map bz).drop (A++G).length=[]:=by rw[List.drop_eq_nil_iff]; simp
 rw[h1,h2];simp[List.map_replicate];exact .inr rfl
def aj3(xs:List ba)(z:Tree)(hz:Rt z)(hn:xs.length<=100000)(h0:xs≠[]):ag kN 201 [.aW 0 0 3 0 xs.length,.func 203 [.ptr 1 0]] [.arr 3 0 (xs.map bz),.cells (ak z)] =
  some (HS (dS z xs).length,[.arr 3 0 ((dS z xs++List.replicate (xs.length-(dS z xs).length) ED).map bz),.cells (ak z)]):=by
 have q168:=alJ xs z hz hn;refine ai ?_
 by_cases hi:tM z xs 0 = -1
 ·have hk:=yk z xs 0 hi;have hb:(tM z xs 0 == -1)=true:=by simpa using hi
  have hl:xs.length≠0:=fun hh=>h0 (List.length_eq_zero_iff.1 hh)
  rw[hk];simp only[Bp,zf,q168,hb,xm,eY,EW,simprocAttr];simp[HS,hl]
 ·obtain⟨A,x,T,h1,h2,h3⟩:=yl z xs 0 hi;have hb:(tM z xs 0 == -1)=false:=by simpa using hi
  simp only[Nat.zero_add] at h2;have hlen:xs.length=A.length+(T.length+1):=by rw[h1]; simp
  have hw:IntKind.i64.wrap ((A.length:Int)+1)=((A.length+[x].length:Nat):Int):=by rw[cL (by omega) (by omega)]; simp
  have hlp:=fun k R hx=>S3 (z:=z) hz hn (k:=k) (R:=R) hx T A [x] (by simp; omega) (by simp)
  have e1:A++[x]++T=xs:=by rw[h1]; simp
  rw[e1] at hlp;rw[h2] at hb q168;rw[h3];simp only[Bp,zf,q168,hb,hw,xm,eY,EW,simprocAttr];refine(hlp _ (fun A' g=>some (HS A'.length,[.arr 3 0 ((A'++List.replicate g ED).map bz),.cells (ak z)])) (fun A' G v q hl hg=>?_)).trans (by simp only[List.length_append])
  have hgl:G.length≠0:=fun hh=>hg (List.length_eq_zero_iff.1 hh)
  have b1:(((A'.length:Nat):Int)<=(xs.length:Int))=True:=nj;have b2:(((A'.length:Nat):Int)==(xs.length:Int))=false:=by simp; omega
  have hcl:=GC A' G;have hN:(A'++G).length=xs.length:=by simp; omega
  have hd:xs.length-A'.length=G.length:=by omega
  rw[hN] at hcl;have hz0:Int.toNat ((0:Nat):Int)=0:=rfl;have hb0:((0:Int)<=((A'.length:Nat):Int))=True:=by simp
  by_cases hA:A'.length=0
  ·have b3:((0:Int)==((A'.length:Nat):Int))=true:=by simp[hA]
   simp only[zf,bX,Nat.sub_zero,Int.le_refl,b1,b2,hd,hcl,b3,hz0,hb0,xm,eY,EW,simprocAttr];simp[HS,hA]
  ·have b3:((0:Int)==((A'.length:Nat):Int))=false:=by simp; omega
   simp only[zf,bX,Nat.sub_zero,Int.le_refl,b1,b2,hd,hcl,b3,hz0,hb0,xm,eY,EW,simprocAttr];simp[HS,hA]
end
def acT(z:Tree):ag kN 259 [.slice .sh [],.func 203 [.ptr 0 0]] [.cells (ak z)]=some (.int .i64 (-1),[.cells (ak z)]):=by
 refine ai ?_;simp only[Fh,zh,ak,xm,eY,EW,simprocAttr];rw[aC];have h0:((0:Int)<((0:Nat):Int))=False:=by simp
 simp only[zh,ak,h0,xm,eY,EW,simprocAttr]
def acL(z:Tree):ag kN 201 [.slice .sh [],.func 203 [.ptr 0 0]] [.cells (ak z)]=some (.slice .sh [],[.cells (ak z)]):=by
 have h11:((-1:Int) == -1)=true:=rfl;have q:ar (ag kN) 259 [.slice .sh [],.func 203 [.ptr 0 0]] [.cells (ak z)]=some (.int .i64 (-1),[.cells (ak z)]):=eE (ids:=[0]) rfl rfl (Zo z) rfl rfl (acT z) rfl rfl rfl rfl rfl;refine ai ?_;simp only[ak] at q;simp only[Bp,zf,ak,q,h11,xm,eY,EW,simprocAttr]
end
noncomputable def uR(args:List ae)(M:aj):Option (ae×aj):=aG (ag kN 201 args M) fun x=>aQ (x.1.dJ=false) (some (x.1.ot x.2,kC x.2 x.1.ids))
def Dx{args:List ae}{M:aj}{x:ae×aj}(h:uR args M=some x):bn Tryz.prog 201 args M x:=by
 obtain⟨y,h1,h2⟩:=az h;obtain⟨hp,h2⟩:=bd h2;cases h2;exact ya (ZZ _ _ _ _ h1).2 hp
def HN(z:Tree):uR [.slice .sh [],.func 203 [.ptr 0 0]] [.cells (ak z)]=some (.slice .sh [],[.cells (ak z)]):=by
 unfold uR;rw[acL,aI];exact bo rfl
def Still(b:aM):Prop:=(∀B M,b.back B M=b)/\b.flat=true/\(∀ρ,b.iE ρ=b)
def Pq(xs:List ba)(z:Tree)(hz:Rt z)(hn:xs.length<=100000)(h0:xs≠[]):∃b,Still b/\uR [.aW 0 0 3 0 xs.length,.func 203 [.ptr 1 0]] [.arr 3 0 (xs.map bz),.cells (ak z)]=some (a8 (dS z xs),[b,.cells (ak z)]):=by
 have h:=aj3 xs z hz hn h0;unfold uR;rw[h,aI];unfold HS
 by_cases hl:(dS z xs).length=0
 ·have h1:dS z xs=[]:=List.length_eq_zero_iff.1 hl;refine⟨.arr 3 0 ((dS z xs++List.replicate (xs.length-(dS z xs).length) ED).map bz),⟨fun _ _=>rfl,rfl,fun _=>rfl⟩,?_⟩
  rw[if_pos hl];refine(bo rfl).trans ?_;rw[h1];rfl
 ·refine⟨.tick 3 ((dS z xs++List.replicate (xs.length-(dS z xs).length) ED).map bz).length,⟨fun _ _=>rfl,rfl,fun _=>rfl⟩,?_⟩
  rw[if_neg hl];refine(bo rfl).trans ?_
  have ht:List.drop 0 (List.take (dS z xs).length ((dS z xs++List.replicate (xs.length-(dS z xs).length) ED).map bz))=(dS z xs).map bz:=by
   simp[List.take_append_of_le_length]
  show some (ae.slice .sh (List.drop 0 (List.take (dS z xs).length ((dS z xs++List.replicate (xs.length-(dS z xs).length) ED).map bz))),_)=_
  rw[ht];rfl
noncomputable def gF(T:rD)(f0:Nat)(g:List ae->aj->Option (ae×aj)):rD:=⟨T.code,fun f=>if f=f0 then some g else T.fZ f⟩
def po{P:Program}{T:rD}(hT:oC P T){f0:Nat}{g:List ae->aj->Option (ae×aj)}(he:fz P f0=true)(hg:∀ {args:List ae} {M:aj} {x:ae×aj},g args M=some x->bn P f0 args M x):oC P (gF T f0 g):=by
 refine⟨hT.code,fun f g' h args M x hx=>?_⟩
 simp only[gF] at h;split at h
 ·rename_i hf;cases h; subst hf;exact⟨he,hg hx⟩
 ·exact hT.fZ f g' h args M x hx
def sY{T:rD}{f0:Nat}{g:List ae->aj->Option (ae×aj)}(h1:T.code f0=none)(h2:T.fZ f0=none):∀n,nC (dN T n) (dN (gF T f0 g) n)
 |0,f,a,M,x,h=>by
  by_cases hf:f=f0
  ·subst hf;rw[dN,h2] at h;cases h
  ·have hp:(gF T f0 g).fZ f=T.fZ f:=by simp[gF,hf]
   rw[dN] at h ⊢;rw[hp];exact h
 |n+1,f,a,M,x,h=>by
  by_cases hf:f=f0
  ·subst hf;rw[dN,h2,h1] at h;cases h
  ·have hp:(gF T f0 g).fZ f=T.fZ f:=by simp[gF,hf]
   rw[dN] at h ⊢;rw[hp];split at h
   ·rename_i g hg; exact h
   ·rename_i hg;have hc:(gF T f0 g).code f=T.code f:=rfl;rw[hc];split at h
    ·cases h
    ·rename_i fn hfn;split at h
     ·rename_i hl;simp only[if_pos hl];obtain⟨o,ho,h⟩:=az h;rw[dV (sY h1 h2 n) _ ho,aI];exact h
     ·cases h
def pn{T:rD}{f0:Nat}{g:List ae->aj->Option (ae×aj)}(h1:T.code f0=none)(h2:T.fZ f0=none){f:Nat}{a:List ae}{M:aj}{x:ae×aj}(h:ag T f a M=some x):ag (gF T f0 g) f a M=some x:=by
 obtain⟨n,hn⟩:=nM h;exact gV (fun n x h=>jA _ n f a M x h) (sY h1 h2 n f a M x hn)
noncomputable def ahB:rD:=gF aH 201 uR
def T2:oC Tryz.prog ahB:=po Z1 (by kernel_rfl) (fun h=>Dx h)
noncomputable def cE:rD:=gF ahB 144 wW
def F6:oC Tryz.prog cE:=po T2 (by kernel_rfl) (fun h=>HY h)
def Es:im Tryz.prog (ag cE):=ma (by kernel_rfl) F6
def F7{f:Nat}{a:List ae}{M:aj}{x:ae×aj}(h:ag aH f a M=some x):ag cE f a M=some x:=pn rfl rfl (pn rfl rfl h)
def lS'{f:Nat}{a:List ae}{M:aj}{x:ae×aj}(h:ag aH f a M=some x):ag cE f a M=some x:=F7 h
def lS{f:Nat}{vs:List ae}{M:aj}{x:ae×aj}(h:ar (ag aH) f vs M=some x):ar (ag cE) f vs M=some x:=by
 obtain⟨a,B,y,h1,h2⟩:=gS h;exact h2 _ (F7 h1)
def Xf(s:Bytes)(hs:s.length<=100000)(M:aj):ar (ag cE) 144 [.str s] M=some (.tuple [bg (cJ s).1,.int .i64 (cJ s).2],M):=by
 have h:ag cE 144 [.str s] []=some (.tuple [bg (cJ s).1,.int .i64 (cJ s).2],[]):=by
  refine bR (g:=wW) rfl ?_;unfold wW;simp only[];rw[if_pos ⟨trivial,hs⟩]
 exact cO h M
section
def iP{s:Bytes}(h:cr s=true):s.length<=32:=by
 unfold cr at h;simp only[Bool.and_eq_true,Bool.not_eq_true',Bool.or_eq_false_iff,decide_eq_false_iff_not] at h;omega
def CF:∀(x:List (Bytes×Bool)) (n:Nat) (l:List Bytes),iG x n=some l->n<=12->(∀s,s∈l->cr s=true)/\l.length+n<=12
 | [],n,l,h,hn=>by
  simp only[iG,Option.some.injEq] at h;subst h;exact⟨fun s hs=>by simp at hs,by simp; omega⟩
 |x::r,n,l,h,hn=>by
  rw[iG] at h;split at h
  ·cases h
  ·rename_i hb;cases hr:iG r (n+1) with
   |none=>rw[hr] at h; cases h
   |some k =>
    rw[hr] at h;simp only[Option.map_some,Option.some.injEq] at h;subst h;have hb':xx x n=false:=by simpa using hb
    unfold xx at hb';simp only[Bool.or_eq_false_iff,Bool.not_eq_false',beq_eq_false_iff_ne] at hb';obtain⟨g1,g2⟩:=CF r (n+1) k hr (by omega)
    refine⟨fun s hs=>?_,by simp; omega⟩
    rcases List.mem_cons.1 hs with h1|h1
    ·subst h1; exact hb'.1.2
    ·exact g1 s h1
def pP(s:Bytes):(∀x,x∈(cJ s).1->cr x=true)/\(cJ s).1.length<=12:=by
 unfold cJ;split
 ·exact⟨fun s hs=>by simp at hs,by simp⟩
 ·split
  ·exact⟨fun s hs=>by simp at hs,by simp⟩
  ·exact⟨fun s hs=>by simp at hs,by simp⟩
  ·rename_i l hl;obtain⟨g1,g2⟩:=CF _ 0 _ hl (by omega)
   exact⟨g1,by omega⟩
def xg:∀l:List Bytes,uo (l.map ae.str)=some l
 | []=>rfl
 |s::r=>by
  show aG (uo (r.map ae.str)) (fun l=>some (s::l))=_
  rw[xg r]; rfl
def wE(l:List Bytes)(h:∀x,x∈l->cr x=true):(Lib.join l [47]).length<=33*l.length:=by
 induction l with
 |nil=>simp[Lib.join]
 |cons a r ih =>
  have h1:=iP (h a (by simp))
  have h2:=ih (fun x hx=>h x (by simp[hx]))
  cases r with
  |nil=>simp[Lib.join]; omega
  |cons b r=>simp[Lib.join] at h2 ⊢; omega
def BO(l:List Bytes):Bytes:=if ((l.length:Int)==0)=true then [47] else [47]++Lib.join l [47]
def Hh(l:List Bytes)(h:∀x,x∈l->cr x=true)(hl:l.length<=12):(BO l).length<=1000:=by
 unfold BO;have:=wE l h;split<;>simp<;>omega
def alQ(l:List Bytes)(h:∀x,x∈l->cr x=true)(hl:l.length<=12)(M:aj):ar (ag aH) 289 [bg l,.str [47]] M=some (.str (Lib.join l [47]),M):=by
 have hq:ag aH 289 [bg l,.str [47]] []=some (.str (Lib.join l [47]),[]):=by
  refine bR (g:=Cf) rfl ?_;unfold Cf;simp only[];rw[xg,aI,if_pos];have:=wE l h;omega
 exact cO hq M
attribute [local irreducible] bS cz fu gK bG kr ag ar aQ aG
def akA(l:List Bytes)(h:∀x,x∈l->cr x=true)(hl:l.length<=12):ag aH 253 [bg l] []=some (.str (BO l),[]):=by
 refine ai ?_;have q:=alQ l h hl;have hm:(IntKind.i64.max<((1+(Lib.join l [47]).length:Nat):Int))=False:=max_lt _ (by have:=wE l h; omega)
 unfold BO;simp only[K0,aaH,q,EW,simprocAttr];cases h0:(l.length:Int)==0<;>simp only[aaH,h0,Bool.false_eq_true,if_true,if_false,q,hm,EW,simprocAttr]
def alI l h hl:=cP (akA l h hl)
def ly(s:Bytes):Bytes×Bytes×Int :=
 if ((cJ s).2 != 0||(((cJ s).1.length:Int)==0))=true then ([],[],60)
 else ((cJ s).1.getD ((cJ s).1.length-1) [],BO ((cJ s).1.take ((cJ s).1.length-1)),0)
def ajZ(s:Bytes)(hs:s.length<=100000):ag cE 195 [.str s] []=some (.tuple [.str (ly s).1,.str (ly s).2.1,.int .i64 (ly s).2.2],[]):=by
 refine ai ?_;have q:=Xf s hs;obtain⟨h1,h2⟩:=pP s;unfold ly;generalize cJ s=l at q h1 h2 ⊢;obtain⟨l,e⟩:=l;simp only at h1 h2;have q2:=fun M=>lS (alI (l.take (l.length-1)) (fun x hx=>h1 x (List.mem_of_mem_take hx)) (by simp; omega) M)
 simp only[bg,List.map_take] at q2;simp only[Kn,QF,q,EW,simprocAttr];cases he:e != 0
 ·cases h0:(l.length:Int)==0
  ·have hne:0<l.length:=by
    have:¬((l.length:Int)=0):=by simpa using h0
    omega
   have hw:IntKind.i64.wrap ((l.length:Int)-1)=((l.length-1:Nat):Int):=by rw[cL (by omega) (by omega)]; omega
   have hx:=List.getElem?_eq_getElem (show l.length-1<l.length by omega)
   have hg:l.getD (l.length-1) []=l[l.length-1]:=by simp[List.getD,hx]
   have hle:((l.length-1:Nat):Int)<=(l.length:Int):=by omega
   have hz:((0:Int)<=((l.length-1:Nat):Int))=True:=by simp
   simp only[QF,he,h0,hw,hx,q2,hg,hle,hz,Bool.or_self,Bool.false_eq_true,if_false,EW,simprocAttr]
  ·simp only[QF,he,h0,Bool.or_true,if_true,EW,simprocAttr]
 ·simp only[QF,he,Bool.true_or,if_true,EW,simprocAttr]
def alx s hs:=cP (ajZ s hs)
def yu(s:Bytes)(_hs:s.length<=100000):(ly s).1.length<=1000/\(ly s).2.1.length<=1000:=by
 obtain⟨h1,h2⟩:=pP s;unfold ly;split
 ·exact⟨by simp,by simp⟩
 ·refine⟨?_,Hh _ (fun x hx=>h1 x (List.mem_of_mem_take hx)) (by simp; omega)⟩
  simp only[List.getD];cases hx:(cJ s).1[(cJ s).1.length-1]? with
  |none=>simp
  |some x=>have:=iP (h1 x (List.mem_of_getElem? hx)); simp; omega
def uv(nodes:List Node):List Bytes->Int->Int×Int
 | [],ino=>(ino,0)
 |s::r,ino=>if ((bM nodes ino s).2 != 0)=true then (0,(bM nodes ino s).2) else uv nodes r (bM nodes ino s).1
def dX(t:Tree)(path:Bytes):Int×Int:=if ((cJ path).2 != 0)=true then (0,(cJ path).2) else uv t.nodes (cJ path).1 1
def S2{t:Tree}(ht:Small t)(hr:jv t){xs:List Bytes}(hxs:∀x,x∈xs->x.length<=100000)(hn:xs.length<=100000) :
  ∀(l pre:List Bytes)(ino:Int),xs=pre++l->bS (ag cE) [.tmp 4,.tmp 5] 0 [.block 0,.seq Zy] (.loop [2,8,19,20,21] Sk) [(2,.ptr 0 0),(8,.int .i64 ino),(19,bg xs),(20,.int .i64 xs.length),(21,.int .i64 pre.length)] [.cells (ak t)] =
   some (.tuple [.int .i64 (uv t.nodes l ino).1,.int .i64 (uv t.nodes l ino).2],[]):=by
 intro l;induction l with
 |nil =>
  intro pre ino h;rw[aC];simp only[CU,cQ h,ak,uv,EW,simprocAttr]
 |cons s rest ih =>
  intro pre ino h;rw[aC];have hlen:pre.length+1<=100000:=by rw[h] at hn; simp at hn; omega
  have hw:=ny pre s;have hi1:=ih (pre++[s]) (bM t.nodes ino s).1 (by rw[h]; simp)
  have q:=fun M=>lS (RH t.nodes t.next t.af ino s ht hr (hxs s (by rw[h]; simp)) trivial M)
  rw[uv];generalize bM t.nodes ino s=v at q hi1 ⊢;simp only[List.length_append,List.length_cons,List.length_nil,Nat.zero_add,ak] at hi1;simp only[CU,cv h,bT h,ak,q,EW,simprocAttr];cases he:v.2 != 0
  ·simp only[CU,he,hw,Bool.false_eq_true,if_false,EW,simprocAttr];exact hi1
  ·simp only[CU,he,if_true,EW,simprocAttr]
def c193(t:Tree)(path:Bytes)(ht:Small t)(hr:jv t)(hp:path.length<=100000):ag cE 193 [aA t,.str path] []=some (.tuple [.int .i64 (dX t path).1,.int .i64 (dX t path).2],[]):=by
 refine ai ?_;have q:=Xf path hp;obtain⟨h1,h2⟩:=pP path;have hl:=S2 ht hr (xs:=(cJ path).1) (fun x hx=>by have:=iP (h1 x hx); omega) (by omega) (cJ path).1 [] 1 rfl
 unfold dX;generalize cJ path=v at q hl ⊢;simp only[ak,List.length_nil] at hl;simp only[Kl,CU,aA,ak,q,EW,simprocAttr];cases he:v.2 != 0
 ·simp only[CU,he,Bool.false_eq_true,if_false,EW,simprocAttr];exact hl
 ·simp only[CU,he,if_true,EW,simprocAttr]
def aec(t:Tree)(path:Bytes)(ht:Small t)(hr:jv t)(hp:path.length<=100000)(M:aj):ar (ag cE) 193 [.agg [au t.nodes,.int .i64 t.next,.int .i64 t.af],.str path] M=some (.tuple [.int .i64 (dX t path).1,.int .i64 (dX t path).2],M) :=
 cO (c193 t path ht hr hp) M
def cp(e:Int):ae := .fQ (.iface 42 (.int .i64 e))
def c78(e:Int):ag cE 78 [.int .i64 e] []=some (if (e != 0)=true then cp e else .tuple [],[]):=by
 refine ai ?_;simp only[WQ,E78,EW,simprocAttr];cases he:e != 0
 ·simp only[E78,Bool.false_eq_true,if_false,EW,simprocAttr]
 ·simp only[E78,if_true,valOf,cp,EW,simprocAttr]
def lX(e:Int)(M:aj):ar (ag cE) 78 [.int .i64 e] M=some (if (e != 0)=true then cp e else .tuple [],M) :=
 vp (c78 e) rfl rfl (by split<;>rfl) rfl (by split<;>rfl) M
def c28(b:Bool)(e:Int)(he:(e != 0)=true):ag cE 28 [.bool b,.int .i64 e] []=some (if b=true then .tuple [] else cp e,[]):=by
 refine ai ?_;have q:=lX e;rw[if_pos he] at q;cases b<;>simp only[WB,E28,q,cp,Bool.false_eq_true,if_true,if_false,EW,simprocAttr]
def Ii(b:Bool)(e:Int)(he:(e != 0)=true)(M:aj):ar (ag cE) 28 [.bool b,.int .i64 e] M=some (if b=true then .tuple [] else cp e,M) :=
 vp (c28 b e he) rfl rfl (by split<;>rfl) rfl (by split<;>rfl) M
end
section
attribute [local irreducible] bS cz fu gK bG kr ag ar aQ aG
def aK(f:aa)(o:dG):List ae:=[au f.s.now.nodes,.int .i64 f.s.now.next,.int .i64 f.s.now.af,.int .i64 f.s.tick,oL f.s.since,nJ f.s.bq,eN f.s.taken,.int .i64 f.s.next,cj f.holds,a8 f.bt,
 .int .i64 o.kind,.int .i64 o.aV,.str o.path,.str o.lU,.int .i64 o.n,.int .i64 o.m,.int .i64 o.handle,bc o.data,
 .int .i64 0,.int .i64 0,.int .i64 0,.int .i64 0,.int .i64 0,.slice .c0 [],.slice .c0 []]
abbrev aL(f:aa)(o:dG):aM := .cells (aK f o)
def bf(f:aa)(o:dG)(a:Ib)(x y:ae):aM := .cells [au f.s.now.nodes,.int .i64 f.s.now.next,.int .i64 f.s.now.af,.int .i64 f.s.tick,oL f.s.since,nJ f.s.bq,eN f.s.taken,.int .i64 f.s.next,cj f.holds,a8 f.bt,
 .int .i64 o.kind,.int .i64 o.aV,.str o.path,.str o.lU,.int .i64 o.n,.int .i64 o.m,.int .i64 o.handle,bc o.data,
 .int .i64 a.err,.int .i64 a.ino,.int .i64 a.kind,.int .i64 a.n,.int .i64 a.m,x,y]
def Row(x:ae)(xs:List ae):Prop:=x = .slice .sh xs\/(x = .slice .c0 []/\xs=[])
def gP(K:Nat)(f:aa)(o:dG)(r:aa×Ib×Int):Prop :=
 ∃x y,Row x (r.2.1.names.map ae.str)/\Row y (r.2.1.data.map hZ)/\ag cE K [.ptr 0 0] [.cells (aK f o)]=some (if (r.2.2 != 0)=true then cp r.2.2 else .tuple [],[bf r.1 o r.2.1 x y])
def ck:Ib:=⟨0,0,0,0,0,[],[]⟩
def BP{C:bL}{g p:Nat}{vs:List ae}{r:ae}{M:aj}{f f':aa}{o o':dG}(hM:nth M p=some (aL f o))(h:C g (.ptr 0 0::vs) [aL f o]=some (r,[aL f' o']))
  (h1:vs.all ae.flat=true) (h2:vs.flatMap ae.ids=[]) (h3:r.oN=true) (h4:∀p,vs.map (ae.iE (da [p]))=vs) (h5:∀p,r.vm (px [p])=r) :
  ar C g (.ptr p 0::vs) M=some (r,dA M p (aL f' o')) :=
 gj hM h h1 h2 h3 (h4 p) (h5 p) rfl rfl rfl rfl rfl
def c194(f:aa)(o:dG)(ino:Int)(ht:Small f.s.now)(hr:jv f.s.now):ag cE 194 [.ptr 0 0,.int .i64 ino] [aL f o]=some (.agg (an (aD f.s.now.nodes ino)),[aL f o]):=by
 refine ai ?_;have q:=fun M=>lS (Qw f.s.now ino ht hr M)
 simp only[an] at q;simp only[Km,ah8,aL,aK,q,an,EW,simprocAttr]
def aed(f:aa)(o:dG)(ino:Int)(ht:Small f.s.now)(hr:jv f.s.now){p:Nat}{M:aj}(hM:nth M p=some (aL f o)):ar (ag cE) 194 [.ptr p 0,.int .i64 ino] M=some (.agg (an (aD f.s.now.nodes ino)),M):=by
 have:=BP hM (c194 f o ino ht hr) rfl rfl rfl (fun _=>rfl) (fun _=>rfl)
 rwa[gN hM] at this
def ai5(f:aa)(o:dG)(path:Bytes)(ht:Small f.s.now)(hr:jv f.s.now)(hp:path.length<=100000):ag cE 124 [.ptr 0 0,.str path] [aL f o] =
  some (if ((dX f.s.now path).2 != 0)=true then cp (dX f.s.now path).2 else .agg (an (aD f.s.now.nodes (dX f.s.now path).1)),[aL f o]):=by
 refine ai ?_;have q1:=aec f.s.now path ht hr hp;generalize dX f.s.now path=v at q1 ⊢;have q2:=lX v.2;have q3:∀b,ar (ag cE) 194 [.ptr 0 0,.int .i64 v.1] [aL f o,b]=some (.agg (an (aD f.s.now.nodes v.1)),[aL f o,b]):=fun b=>aed f o v.1 ht hr (p:=0) rfl
 simp only[aL,aK,an] at q3;simp only[JE,Vm,aL,aK,q1,EW,simprocAttr];cases he:v.2 != 0<;>simp only[he,Bool.false_eq_true,if_true,if_false,cp] at q2 ⊢
 ·simp only[Vm,q2,q3,an,EW,simprocAttr]
 ·simp only[Vm,q2,EW,simprocAttr]
def DW(f:aa)(o:dG)(path:Bytes)(ht:Small f.s.now)(hr:jv f.s.now)(hp:path.length<=100000){p:Nat}{M:aj}(hM:nth M p=some (aL f o)):ar (ag cE) 124 [.ptr p 0,.str path] M =
  some (if ((dX f.s.now path).2 != 0)=true then cp (dX f.s.now path).2 else .agg (an (aD f.s.now.nodes (dX f.s.now path).1)),M):=by
 have:=BP hM (ai5 f o path ht hr hp) rfl rfl (by split<;>rfl) (fun _=>rfl) (fun _=>by split<;>rfl)
 rwa[gN hM] at this
def dL(t:Tree)(path:Bytes):Int×Bytes×Int :=
 if ((ly path).2.2 != 0)=true then (0,[],(ly path).2.2)
 else if ((dX t (ly path).2.1).2 != 0)=true then (0,[],(dX t (ly path).2.1).2)
 else ((dX t (ly path).2.1).1,(ly path).1,0)
def ai6(f:aa)(o:dG)(path:Bytes)(ht:Small f.s.now)(hr:jv f.s.now)(hp:path.length<=100000):ag cE 125 [.ptr 0 0,.str path] [aL f o] =
  some (if ((dL f.s.now path).2.2 != 0)=true then cp (dL f.s.now path).2.2 else .tuple [.int .i64 (dL f.s.now path).1,.str (dL f.s.now path).2.1],[aL f o]):=by
 refine ai ?_;have q1:=alx path hp;have hl:=yu path hp;have q4:=aec f.s.now (ly path).2.1 ht hr (by omega)
 unfold dL;generalize ly path=l at q1 q4 ⊢;have q2:=lX l.2.2;generalize dX f.s.now l.2.1=v at q4 ⊢;have q3:=lX v.2;simp only[JF,QA,aL,aK,q1,EW,simprocAttr];cases he:l.2.2 != 0<;>simp only[he,Bool.false_eq_true,if_true,if_false,cp] at q2 ⊢
 ·cases hv:v.2 != 0<;>simp only[hv,Bool.false_eq_true,if_true,if_false,cp] at q3 ⊢
  ·simp only[QA,q2,q4,q3,bne_self_eq_false,Bool.false_eq_true,if_false,EW,simprocAttr]
  ·simp only[QA,q2,q4,q3,hv,if_true,EW,simprocAttr]
 ·simp only[QA,q2,he,if_true,EW,simprocAttr]
def LB(f:aa)(o:dG)(path:Bytes)(ht:Small f.s.now)(hr:jv f.s.now)(hp:path.length<=100000){p:Nat}{M:aj}(hM:nth M p=some (aL f o)):ar (ag cE) 125 [.ptr p 0,.str path] M =
  some (if ((dL f.s.now path).2.2 != 0)=true then cp (dL f.s.now path).2.2 else .tuple [.int .i64 (dL f.s.now path).1,.str (dL f.s.now path).2.1],M):=by
 have:=BP hM (ai6 f o path ht hr hp) rfl rfl (by split<;>rfl) (fun _=>rfl) (fun _=>by split<;>rfl)
 rwa[gN hM] at this
def sS(n:Node):Int:=if (n.data.length:Int)<(n.av.length:Int) then (n.av.length:Int) else (n.data.length:Int)
def ajf(n:Node):ag cE 134 [aF n] []=some (.int .i64 (sS n),[]):=by
 refine ai ?_;simp only[JO,ahZ,aF,an,sS,EW,simprocAttr]
def SM{xs:List ct}(hn:xs.length<=100000){k:List K}{R:List Bytes->Option (ae×aj)}
  (hx:∀(out:List Bytes) e,kr (ag cE) [.tmp 2] 0 k ⟨.exit 0,(3,.slice (.own 0) (out.map ae.str))::e,[.tick 1 out.length]⟩=R out) :
  ∀(l pre:List ct)(out:List Bytes),xs=pre++l->out.length<=pre.length->bS (ag cE) [.tmp 2] 0 k (.loop [3,6,7,8] R0) [(3,.slice (.own 0) (out.map ae.str)),(6,cT xs),(7,.int .i64 xs.length),(8,.int .i64 pre.length)] [.tick 1 out.length]=R (out++l.map ct.name):=by
 intro l;induction l with
 |nil =>
  intro pre out h ho;rw[aC];simp only[QB,cQ h,EW,simprocAttr];exact hx _ _
 |cons n rest ih =>
  intro pre out h ho;rw[aC];have hlen:pre.length+1<=100000:=by rw[h] at hn; simp at hn; omega
  have hw:=ny pre n;have hi:=ih (pre++[n]) (out++[n.name]) (by rw[h]; simp) (by simp; omega)
  simp only[List.length_append,List.length_cons,List.length_nil,List.map_append,List.map_cons,List.map_nil,Nat.zero_add,List.append_assoc,List.cons_append,List.nil_append] at hi;have r1:aP (out.length+1) 16=True:=jx;simp only[QB,cv h,bT h,bU,r1,hw,EW,simprocAttr];exact hi
def aje(l:List ct)(hn:l.length<=100000):ag cE 133 [cT l] []=some (bg (l.map ct.name),[]):=by
 refine ai ?_;have hl:=SM hn (k:=[.block 0,.seq Zu]) (R:=fun out=>some (bg out,[])) (fun out e=>by simp only[QB,EW,simprocAttr]) l [] [] rfl (Nat.le_refl _)
 simp only[List.map_nil,List.length_nil] at hl;simp only[JN,QB,EW,simprocAttr];exact hl
def Xc l hn:=cP (aje l hn)
def Xd(n:Node)(M:aj):ar (ag cE) 134 [.agg (an n)] M=some (.int .i64 (sS n),M):=cO (ajf n) M
end
section
abbrev eI:Int->ae:=fun n => .int .i64 n
def bkI(B:Nat)(M:aj)(l:AM Int):List.map (ae.eJ B M) (ji eI l)=ji eI l:=Q7 _ _ _ (fun _=>rfl) l
attribute [local irreducible] bS cz fu gK bG kr ag ar aQ aG
def rQ(nodes:List Node)(dom:Int):List ct->AM Int->Option (AM Int)
 | [],m=>some m
 |e::r,m=>if ((aD nodes e.ino).kind==1&&(cD m e.ino).isSome&&((cD m e.ino).getD 0 != dom))=true then none else rQ nodes dom r (gJ m e.ino dom)
def ll(nodes:List Node)(l:List ba):List Node->AM Int->Bool
 | [],_=>true
 |d::r,m=>if ((d.av.length:Int)==0)=true then ll nodes l r m else match rQ nodes (rR nodes l d.ino) d.av m with
  |none=>false
  |some m'=>ll nodes l r m'
def jL(t:Tree)(l:List ba):Bool:=ll t.nodes l t.nodes []
def Tg{t:Tree}(ht:Small t)(hr:jv t){ql:List ba}{d:Node}{dom i n0:Int}{k:List K}{R:Option (AM Int)->Option (ae×aj)}(hn:d.av.length<=100000)
  (hx:∀m e,kr (ag aH) [.tmp 4] 0 k ⟨.exit 2,(1,a8 ql)::(2,.ptr 0 0)::(5,.cU 1)::(8,.int .i64 dom)::(17,au t.nodes)::(18,.int .i64 n0)::(19,.int .i64 i)::e,[.cells (ak t),.map (uF m) (ji eI m),.cells (an d)]⟩=R (some m))
  (hret:∀m b1 b2,kr (ag aH) [.tmp 4] 0 k ⟨.ret,[(4,.bool false)],[.cells (ak t),.map (uF m) (ji eI m),.cells (an d),b1,b2]⟩=R none) :
  ∀(l pre:List ct)(m:AM Int),d.av=pre++l->bS (ag aH) [.tmp 4] 0 k (.loop [1,2,5,8,17,18,19,33,34,35] Yw) [(1,a8 ql),(2,.ptr 0 0),(5,.cU 1),(8,.int .i64 dom),(17,au t.nodes),(18,.int .i64 n0),(19,.int .i64 i),(33,cT d.av),(34,.int .i64 d.av.length),(35,.int .i64 pre.length)] [.cells (ak t),.map (uF m) (ji eI m),.cells (an d)] =
   R (rQ t.nodes dom l m):=by
 simp only[ak,an] at hx hret ⊢;intro l;induction l with
 |nil =>
  intro pre m h;rw[aC];simp only[Iw,cQ h,rQ,bkI,EW,simprocAttr];exact hx _ _
 |cons e rest ih =>
  intro pre m h;rw[aC];have hlen:pre.length+1<=100000:=by rw[h] at hn; simp at hn; omega
  have hw:=ny pre e;have q1:=Qw t e.ino ht hr;have hput:=lA eI m e.ino dom;have hi:=ih (pre++[e]) (gJ m e.ino dom) (by rw[h]; simp)
  rw[rQ];simp only[an,List.length_append,List.length_cons,List.length_nil,Nat.zero_add] at q1 hi;simp only[Iw,cv h,bT h,bU,q1,gX,mapOf.eq_1,EW,simprocAttr];cases hm:cD m e.ino with
  |none =>
   cases hk:(aD t.nodes e.ino).kind==1<;>simp only[Iw,hm,hk,Ol,hput,hw,mapOf.eq_1,bkI,Option.map_none,Option.isSome_none,Bool.and_false,Bool.false_and,Bool.false_eq_true,if_false,EW,simprocAttr]
   ·exact hi
   ·exact hi
  |some v =>
   cases hk:(aD t.nodes e.ino).kind==1<;>cases hd:v != dom<;>simp only[Iw,hm,hk,hd,FG,hput,hw,mapOf.eq_1,bkI,Option.isSome_some,Option.getD_some,Bool.and_false,Bool.false_and,Bool.true_and,Bool.false_eq_true,if_true,if_false,EW,simprocAttr]
   ·exact hi
   ·exact hi
   ·exact hi
   ·exact hret _ _ _
def Th{t:Tree}{dep:Int->Nat}(ht:bK t dep 0){ql:List ba}(hq:iH ql)(hql:ql.length<=100000) :
  ∀(l pre:List Node)(m:AM Int),t.nodes=pre++l->bS (ag aH) [.tmp 4] 0 [.block 0,.seq PH] (.loop [1,2,5,17,18,19] Oi) [(1,a8 ql),(2,.ptr 0 0),(5,.cU 1),(17,au t.nodes),(18,.int .i64 t.nodes.length),(19,.int .i64 pre.length)] [.cells (ak t),.map (uF m) (ji eI m)] =
   some (.bool (ll t.nodes ql l m),[]):=by
 intro l;induction l with
 |nil =>
  intro pre m h;rw[aC];simp only[Iw,cQ h,ll,ak,EW,simprocAttr]
 |cons d rest ih =>
  intro pre m h;rw[aC];have hn:=ht.nodes;have hlen:pre.length+1<=200:=by rw[h] at hn; simp at hn; omega
  have hw:=ny pre d;have hi:=fun m=>ih (pre++[d]) m (by rw[h]; simp)
  have hfd:find t.nodes d.ino=some d:=(fG ht.fN.hV).2 ⟨by rw[h]; simp,rfl⟩
  rw[ll];simp only[ak,List.length_append,List.length_cons,List.length_nil,Nat.zero_add] at hi;simp only[Iw,cv h,bT h,ak,an,EW,simprocAttr];cases he:(d.av.length:Int)==0
  ·have hk:d.kind=2:=by
    rcases ht.kind _ _ hfd with h1|h1
    ·rw[(ht.file _ _ hfd h1).1] at he; simp at he
    ·exact h1
   have q1:=k94 ht hq hql hfd hk
   have hin:=Tg ht.sz.Aa ht.fN (ql:=ql) (d:=d) (dom:=rR t.nodes ql d.ino) (i:=pre.length) (n0:=t.nodes.length) (k:=[.block 2,.block 1,.seq ZJ,.loop [1,2,5,17,18,19] 2 Oi,.block 0,.seq PH])
    (R:=fun o=>some (.bool (match o with|none=>false|some m'=>ll t.nodes ql rest m'),[])) (by have:=(ht.pV _ _ hfd).2; omega)
    (fun m e=>by
     have:=hi m;simp only[ak,an,Iw,hw,bkI,EW,simprocAttr];exact this)
    (fun m b1 b2=>by simp only[ak,an,Iw,EW,simprocAttr]) d.av [] m rfl
   simp only[ak,an,List.length_nil] at hin;simp only[Iw,he,q1,Bool.false_eq_true,if_false,EW,simprocAttr];refine hin.trans ?_;rfl
  ·simp only[Iw,he,hw,if_true,bkI,EW,simprocAttr];exact hi m
def c32(t:Tree)(l:List ba)(ht:Rt t)(hq:iH l)(hl:l.length<=100000):ag aH 32 [aA t,a8 l] []=some (.bool (jL t l),[]):=by
 obtain⟨dep,ht⟩:=ht;refine ai ?_;have h:=Th ht hq hl t.nodes [] [] rfl;simp only[ak,List.length_nil] at h;simp only[WC,Iw,aA,ak,EW,simprocAttr];exact h
def k32(t:Tree)(l:List ba)(ht:Rt t)(hq:iH l)(hl:l.length<=100000)(M:aj):ar (ag aH) 32 [.agg [au t.nodes,.int .i64 t.next,.int .i64 t.af],a8 l] M=some (.bool (jL t l),M):=cO (c32 t l ht hq hl) M
end
section
def yF{args:List ae}{M:aj}{x:ae×aj}(h:uR args M=some x):ag cE 201 args M=some x:=bR (T:=cE) (g:=uR) rfl h
def ahl(xs:List ae)(z:Tree)(W:aM):dK [W,.cells (ak z),.arr 3 0 xs] (da [2,1]) [2,1]=some [.arr 3 0 xs,.cells (ak z)]:=rfl
def Zk(z:Tree)(W:aM):dK [W,.cells (ak z)] (da [1]) [1]=some [.cells (ak z)]:=rfl
attribute [local irreducible] bS cz fu gK bG kr ag ar aQ aG
def aeg(z:Tree)(W:aM):ar (ag cE) 201 [.slice .sh [],.func 203 [.ptr 1 0]] [W,.cells (ak z)]=some (.slice .sh [],[W,.cells (ak z)]) :=
 eE (ids:=[1]) rfl rfl (Zk z W) rfl rfl (yF (HN z)) rfl rfl rfl rfl rfl
def aly(xs:List ba)(z:Tree)(hz:Rt z)(hn:xs.length<=100000)(h0:xs≠[])(W:aM):∃b,Still b/\ar (ag cE) 201 [.aW 2 0 3 0 xs.length,.func 203 [.ptr 1 0]] [W,.cells (ak z),.arr 3 0 (xs.map bz)] =
  some (a8 (dS z xs),[W,.cells (ak z),b]):=by
 obtain⟨b,hb,h⟩:=Pq xs z hz hn h0;refine⟨b,hb,eE (ids:=[2,1]) rfl rfl (ahl _ z W) rfl rfl (yF h) rfl rfl ?_ rfl ?_⟩
 ·simp only[List.all_cons,hb.2.1]; rfl
 ·simp only[eW,hb.2.2]; rfl
def ir(l:List bI):List Int->Tree->Tree
 | [],t=>t
 |i::r,t=>ir l r (if (!r8 l i)=true then (gD t i).1 else t)
def tF(l:List bI):∀(r:List Int)(t:Tree),Rt t->Rt (ir l r t)
 | [],t,h=>h
 |i::r,t,h=>by
  rw[ir];refine tF l r _ ?_;split
  ·exact h.free i
  ·exact h
def Oq{f:aa}{o:dG}{q:List ba}(hh:f.holds.length<=100000){xs:List Int}(hn:xs.length<=100000){fin:Tree}{k:List K}{r:Option (ae×aj)}
  (hx:∀e,kr (ag cE) [] 1 k ⟨.exit 0,(0,.ptr 0 0)::(2,a8 q)::(4,.ptr 1 0)::e,[aL f o,.cells (ak fin)]⟩=r) :
  ∀(l pre:List Int)(t:Tree),xs=pre++l->Rt t->ir f.holds l t=fin->bS (ag cE) [] 1 k (.loop [0,2,4,13,14,15] RZ) [(0,.ptr 0 0),(2,a8 q),(4,.ptr 1 0),(13,oL xs),(14,.int .i64 xs.length),(15,.int .i64 pre.length)] [aL f o,.cells (ak t)]=r:=by
 simp only[aL,aK,ak] at hx ⊢;intro l;induction l with
 |nil =>
  intro pre t h ht hfin;rw[aC];rw[ir] at hfin;subst hfin;simp only[ku,cQ h,EW,simprocAttr];exact hx _
 |cons i rest ih =>
  intro pre t h ht hfin;rw[aC];have hlen:pre.length+1<=100000:=by rw[h] at hn; simp at hn; omega
  have hw:=ny pre i;rw[ir] at hfin;have hi1:=ih (pre++[i]) t (by rw[h]; simp) ht
  have hi2:=ih (pre++[i]) (gD t i).1 (by rw[h]; simp) (ht.free i)
  have q1:∀M,nth M 2=some (.cells [.int .i64 i])->ar (ag cE) 164 [cj f.holds,.func 199 [.ptr 2 0]] M=some (.bool (r8 f.holds i),M):=fun M hM=>lS (rL hM (acI f.holds i hh) rfl rfl rfl)
  have q2:=fun M=>lS (aef t i ht.small ht.fN M)
  simp only[ak,List.length_append,List.length_cons,List.length_nil,Nat.zero_add] at hi1 hi2 q2;simp only[ku,cv h,bT h,q1,EW,simprocAttr];cases he:r8 f.holds i<;>rw[he] at hfin
  ·simp only[Bool.not_false,if_true] at hfin;have:=hi2 hfin;simp only[ku,he,q2,hw,EW,simprocAttr];exact this
  ·simp only[Bool.not_true,Bool.false_eq_true,if_false] at hfin;have:=hi1 hfin;simp only[ku,he,hw,EW,simprocAttr];exact this
def iX(t:Tree)(q:ba):Bool := !(decide ((jz t.nodes q.ino).1<=q.nodes)&&decide ((jz t.nodes q.ino).2<=q.bytes))
def Ht{f:aa}{o:dG}{t:Tree}(ht:Rt t){xs:List ba}(hn:xs.length<=100000){k:List K}{r:Option (ae×aj)}
  (hx:∀e,xs.any (iX t)=false->kr (ag cE) [] 1 k ⟨.exit 2,(0,.ptr 0 0)::(2,a8 xs)::(4,.ptr 1 0)::e,[aL f o,.cells (ak t)]⟩=r)
  (hp:∀c,xs.any (iX t)=true->kr (ag cE) [] 1 k ⟨.fQ (.iface 42 (.int .i64 90)),[],[aL f o,.cells (ak t),c]⟩=r) :
  ∀(l pre:List ba),xs=pre++l->pre.any (iX t)=false->bS (ag cE) [] 1 k (.loop [0,2,4,42,43,44] Fz) [(0,.ptr 0 0),(2,a8 xs),(4,.ptr 1 0),(42,a8 xs),(43,.int .i64 xs.length),(44,.int .i64 pre.length)] [aL f o,.cells (ak t)]=r:=by
 simp only[aL,aK,ak] at hx hp ⊢;intro l;induction l with
 |nil =>
  intro pre h hpre;rw[aC];have hany:xs.any (iX t)=false:=by rw[h,List.append_nil]; exact hpre
  simp only[ku,cQ h,EW,simprocAttr];exact hx _ hany
 |cons q rest ih =>
  intro pre h hpre;rw[aC];have hlen:pre.length+1<=100000:=by rw[h] at hn; simp at hn; omega
  have hw:=ny pre q;have q1:=fun M=>lS (k93 ht q.ino M)
  have q2:=fun bb=>Ii bb 90 rfl
  have hov:∀z,iX t q=z->(decide ((jz t.nodes q.ino).1<=q.nodes)&&decide ((jz t.nodes q.ino).2<=q.bytes)) = !z:=fun z hz=>by rw[<-hz]; unfold iX; simp
  simp only[ku,cv h,bT h,cZ,q1,EW,simprocAttr];cases ho:iX t q
  ·have hi:=ih (pre++[q]) (by rw[h]; simp) (by simp[hpre,ho])
   have hv:=hov _ ho;simp only[List.length_append,List.length_cons,List.length_nil,Nat.zero_add] at hi;simp only[Bool.not_false,Bool.and_eq_true] at hv;simp only[ku,hv.1,hv.2,q2,hw,if_true,EW,simprocAttr];exact hi
  ·have hany:xs.any (iX t)=true:=by rw[h]; simp[ho]
   have hv:=hov _ ho;cases h1:decide ((jz t.nodes q.ino).1<=q.nodes)<;>cases h2:decide ((jz t.nodes q.ino).2<=q.bytes)<;>simp only[h1,h2,Bool.and_self,Bool.not_true] at hv
   ·simp only[ku,h1,h2,q2,cp,Bool.false_eq_true,if_false,EW,simprocAttr];exact hp _ hany
   ·simp only[ku,h1,h2,q2,cp,Bool.false_eq_true,if_false,EW,simprocAttr];exact hp _ hany
   ·simp only[ku,h1,h2,q2,cp,Bool.false_eq_true,if_false,EW,simprocAttr];exact hp _ hany
   ·cases hv
def Hs{f:aa}{o:dG}{t:Tree}(ht:Rt t){xs:List ba}(hn:xs.length<=100000){b:aM}(hbb:Still b){k:List K}{r:Option (ae×aj)}
  (hx:∀e,xs.any (iX t)=false->kr (ag cE) [] 1 k ⟨.exit 2,(0,.ptr 0 0)::(2,a8 xs)::(4,.ptr 1 0)::e,[aL f o,.cells (ak t),b]⟩=r)
  (hp:∀c,xs.any (iX t)=true->kr (ag cE) [] 1 k ⟨.fQ (.iface 42 (.int .i64 90)),[],[aL f o,.cells (ak t),b,c]⟩=r) :
  ∀(l pre:List ba),xs=pre++l->pre.any (iX t)=false->bS (ag cE) [] 1 k (.loop [0,2,4,42,43,44] Fz) [(0,.ptr 0 0),(2,a8 xs),(4,.ptr 1 0),(42,a8 xs),(43,.int .i64 xs.length),(44,.int .i64 pre.length)] [aL f o,.cells (ak t),b]=r:=by
 simp only[aL,aK,ak] at hx hp ⊢;intro l;induction l with
 |nil =>
  intro pre h hpre;rw[aC];have hany:xs.any (iX t)=false:=by rw[h,List.append_nil]; exact hpre
  simp only[ku,cQ h,EW,simprocAttr];exact hx _ hany
 |cons q rest ih =>
  intro pre h hpre;rw[aC];have hlen:pre.length+1<=100000:=by rw[h] at hn; simp at hn; omega
  have hw:=ny pre q;have q1:=fun M=>lS (k93 ht q.ino M)
  have q2:=fun bb=>Ii bb 90 rfl
  have hov:∀z,iX t q=z->(decide ((jz t.nodes q.ino).1<=q.nodes)&&decide ((jz t.nodes q.ino).2<=q.bytes)) = !z:=fun z hz=>by rw[<-hz]; unfold iX; simp
  simp only[ku,cv h,bT h,cZ,q1,EW,simprocAttr];cases ho:iX t q
  ·have hi:=ih (pre++[q]) (by rw[h]; simp) (by simp[hpre,ho])
   have hv:=hov _ ho;simp only[List.length_append,List.length_cons,List.length_nil,Nat.zero_add] at hi;simp only[Bool.not_false,Bool.and_eq_true] at hv;simp only[ku,hv.1,hv.2,q2,hw,if_true,hbb.1,EW,simprocAttr];exact hi
  ·have hany:xs.any (iX t)=true:=by rw[h]; simp[ho]
   have hv:=hov _ ho;cases h1:decide ((jz t.nodes q.ino).1<=q.nodes)<;>cases h2:decide ((jz t.nodes q.ino).2<=q.bytes)<;>simp only[h1,h2,Bool.and_self,Bool.not_true] at hv
   ·simp only[ku,h1,h2,q2,cp,Bool.false_eq_true,if_false,EW,simprocAttr];exact hp _ hany
   ·simp only[ku,h1,h2,q2,cp,Bool.false_eq_true,if_false,EW,simprocAttr];exact hp _ hany
   ·simp only[ku,h1,h2,q2,cp,Bool.false_eq_true,if_false,EW,simprocAttr];exact hp _ hany
   ·cases hv
def dv(f:aa)(t:Tree)(q:List ba):aa×Int :=
 if (!jL (ir f.holds (fp t) t) (dS (ir f.holds (fp t) t) q))=true then (f,91)
 else if ((dS (ir f.holds (fp t) t) q).any (iX (ir f.holds (fp t) t)))=true then (f,90)
 else (⟨mj f.s (ir f.holds (fp t) t),f.holds,dS (ir f.holds (fp t) t) q⟩,0)
structure oo(f:aa):Prop where
 rt:Rt f.s.now
 len:f.s.since.length=f.s.now.nodes.length
 bq:f.s.bq.length<=90000
 ub:∀p,p∈f.s.bq->p.node.av.length<=64/\p.node.data.length<=4096
 taken:f.s.taken.length<=16
 holds:ko f.holds
 hlen:f.holds.length<=64
 bt:iH f.bt
 jN:f.bt.length<=16
def ad0(s:c8)(t:Tree)(hs:jv s.now)(hz:Sz 200 s.now)(ht:jv t)(hzt:Sz 200 t)(hk:s.taken.length<=100000)(hl:s.since.length=s.now.nodes.length)(hp:s.bq.length<=100000)(M:aj) :
  ar (ag aH) 137 [.agg (aE s),.agg [au t.nodes,.int .i64 t.next,.int .i64 t.af]] M=some (.agg (aE (mj s t)),M):=cO (aji s t hs hz ht hzt hk hl hp) M
def yq{t:Tree}{q:List ba}(h:iH q):iH (dS t q):=List.Pairwise.filter _ h
def tQ(t:Tree)(q:List ba):(dS t q).length<=q.length:=List.length_filter_le _ _
def ai8(f:aa)(o:dG)(t:Tree)(q:List ba)(hf:oo f)(ht:Rt t)(hq:iH q)(hql:q.length<=16):ag cE 127 [.ptr 0 0,aA t,a8 q] [aL f o] =
  some (if ((dv f t q).2 != 0)=true then cp (dv f t q).2 else .tuple [],[aL (dv f t q).1 o]):=by
 refine ai ?_;have q0:=fun M=>lS (k90 t (by have:=ht.sz.nodes; omega) M)
 have hor:(fp t).length<=100000:=by have:=ht.sz.nodes; have h2:=List.length_filter_le gM t.nodes; unfold fp; simp; omega
 have hl:=Oq (f:=f) (o:=o) (q:=q) (by have:=hf.hlen; omega) (xs:=fp t) hor (fin:=ir f.holds (fp t) t) (k:=[.block 0,.seq TN])
  (r:=some (if ((dv f t q).2 != 0)=true then cp (dv f t q).2 else .tuple [],[aL (dv f t q).1 o])) ?_ (fp t) [] t rfl ht rfl
 ·simp only[aL,aK,ak,List.length_nil] at hl;simp only[JH,ku,aL,aK,aA,ak,q0,EW,simprocAttr];exact hl
 ·intro e;have ht1:=tF f.holds (fp t) t ht;unfold dv;generalize ir f.holds (fp t) t=t1 at ht1 ⊢;have q1:=fun M=>lS (k32 t1 (dS t1 q) ht1 (yq hq) (by have:=tQ t1 q; omega) M)
  have q2:=fun bb=>Ii bb 91 rfl
  have q3:=fun M=>lS (ad0 f.s t1 hf.rt.fN hf.rt.sz ht1.fN ht1.sz (by have:=hf.taken; omega) hf.len (by have:=hf.bq; omega) M)
  generalize mj f.s t1=ps at q3 ⊢;simp only[aE] at q3
  by_cases h0:q=[]
  ·have p1:=fun M=>lS' (wo bz (f:=202) (sz:=3) (bytes:=24) rfl h0 M)
   have hk0:dS t1 q=[]:=by subst h0; rfl
   rw[hk0] at q1 ⊢;have q1:∀M,ar (ag cE) 32 [.agg [au t1.nodes,.int .i64 t1.next,.int .i64 t1.af],.slice .sh []] M=some (.bool (jL t1 []),M):=q1
   have p2:=aeg t1 (aL f o);cases hd:jL t1 []
   ·rw[hd] at q1;simp only[aL,aK,ak,cp] at p2 ⊢;simp only[ku,p1,p2,q1,q2,cp,hd,Bool.false_eq_true,if_true,if_false,EW,simprocAttr]
   ·rw[hd] at q1
    have hlp:=Ht (f:=f) (o:=o) (t:=t1) ht1 (xs:=[]) (by simp) (k:=[.block 2,.seq FU]) (r:=some (.tuple [],[aL ⟨ps,f.holds,[]⟩ o]))
     (fun e _=>by simp only[aL,aK,ak,ku,q3,aE,EW,simprocAttr]; rfl) (fun c h=>by cases h) [] [] rfl rfl
    simp only[aL,aK,ak,cp,List.length_nil] at p2 hlp ⊢;simp only[ku,p1,p2,q1,q2,hd,cp,Bool.false_eq_true,if_true,if_false,List.any_nil,bne_self_eq_false,EW,simprocAttr];exact hlp
  ·obtain⟨b,hb,p2⟩:=aly q t1 ht1 (by omega) h0 (aL f o)
   have p1:=fun M=>lS' (vr bz (f:=202) (sz:=3) (bytes:=24) rfl (fun _=>rfl) (by omega) h0 (by omega) M)
   have hkl:(dS t1 q).length<=100000:=by have:=tQ t1 q; omega
   generalize dS t1 q=kq at q1 p2 hkl ⊢;cases hd:jL t1 kq
   ·rw[hd] at q1;simp only[aL,aK,ak,cp] at p2 ⊢;simp only[ku,p1,p2,q1,q2,cp,hd,hb.1,Bool.false_eq_true,if_true,if_false,EW,simprocAttr]
   ·rw[hd] at q1
    have hlp:=Hs (f:=f) (o:=o) (t:=t1) ht1 (xs:=kq) hkl hb (k:=[.block 2,.seq FU]) (r:=some (if (kq.any (iX t1))=true then cp 90 else .tuple [],[aL (if (kq.any (iX t1))=true then f else ⟨ps,f.holds,kq⟩) o]))
     (fun e h=>by simp only[h,Bool.false_eq_true,if_false,aL,aK,ak,ku,q3,aE,EW,simprocAttr]) (fun c h=>by simp only[h,if_true,aL,aK,ak,ku,cp,EW,simprocAttr]) kq [] rfl rfl
    simp only[aL,aK,ak,cp,List.length_nil] at p2 hlp ⊢;simp only[ku,p1,p2,q1,q2,hd,cp,Bool.false_eq_true,if_true,if_false,EW,simprocAttr];refine hlp.trans ?_;cases kq.any (iX t1)<;>rfl
end
section
attribute [local irreducible] bS cz fu gK bG kr ag ar aQ aG
structure p6(o:dG):Prop where
 path:o.path.length<=90000
 lU:o.lU.length<=90000
 data:o.data.length<=90000
def bK.Qs{t:Tree}{dep:Int->Nat}(h:bK t dep 0)(to:Int)(nm:Bytes):∀e,cB (cK t.nodes to).1.av nm=some e->(aD t.nodes e.ino).ino≠to:=by
 intro e he;unfold cK at he;split at he
 ·cases he
 ·rename_i n hn;split at he
  ·have hem:=(dH he).1;obtain⟨_,_,_,_,m,hm,_⟩:=h.vZ _ _ e hn hem;simp only[aD,hm,Option.getD_some,(bh hm).2];exact h.oM hn hem
  ·cases he
def Hi(f:aa)(o:dG)(t:Tree)(q:List ba)(hf:oo f)(ht:Rt t)(hq:iH q)(hql:q.length<=16){p:Nat}{M:aj}(hM:nth M p=some (aL f o)):ar (ag cE) 127 [.ptr p 0,.agg [au t.nodes,.int .i64 t.next,.int .i64 t.af],a8 q] M =
  some (if ((dv f t q).2 != 0)=true then cp (dv f t q).2 else .tuple [],dA M p (aL (dv f t q).1 o)) :=
 BP hM (ai8 f o t q hf ht hq hql) rfl rfl (by split<;>rfl) (fun _=>rfl) (fun _=>by split<;>rfl)
def ald(t:Tree)(ht:Rt t)(dir:Int)(s:Bytes)(kind:Int)(hs:s.length<=100000)(M:aj):ar (ag cE) 126 [.agg [au t.nodes,.int .i64 t.next,.int .i64 t.af],.int .i64 dir,.str s,.int .i64 kind] M =
  some (.tuple [.agg [au (kf t dir s kind).1.nodes,.int .i64 (kf t dir s kind).1.next,.int .i64 (kf t dir s kind).1.af],.int .i64 (kf t dir s kind).2.1,.int .i64 (kf t dir s kind).2.2],M):=by
 obtain⟨dep,h⟩:=ht;have:=ai7 t dir s kind (h.sz.up (by omega)) h.fN hs trivial h.dw
 rw[QR h] at this;exact lS (cO this M)
def ale(t:Tree)(ht:Rt t)(ino dir:Int)(s:Bytes)(hs:s.length<=100000)(M:aj):ar (ag cE) 128 [.agg [au t.nodes,.int .i64 t.next,.int .i64 t.af],.int .i64 ino,.int .i64 dir,.str s] M =
  some (.tuple [.agg [au (wL t ino dir s).1.nodes,.int .i64 (wL t ino dir s).1.next,.int .i64 (wL t ino dir s).1.af],.int .i64 (wL t ino dir s).2],M):=by
 obtain⟨dep,h⟩:=ht;have:=ai9 t ino dir s (h.sz.up (by omega)) h.fN hs trivial
 rw[YR h] at this;exact lS (cO this M)
def alf(t:Tree)(ht:Rt t)(dir:Int)(s:Bytes)(hs:s.length<=100000)(M:aj):ar (ag cE) 129 [.agg [au t.nodes,.int .i64 t.next,.int .i64 t.af],.int .i64 dir,.str s] M =
  some (.tuple [.agg [au (vo t dir s).1.nodes,.int .i64 (vo t dir s).1.next,.int .i64 (vo t dir s).1.af],.int .i64 (vo t dir s).2.1,.int .i64 (vo t dir s).2.2],M):=by
 obtain⟨dep,h⟩:=ht;have:=aja t dir s (h.sz.up (by omega)) h.fN hs trivial
 rw[Z7 h] at this;exact lS (cO this M)
def alg(t:Tree)(ht:Rt t)(dir:Int)(s:Bytes)(to:Int)(nm:Bytes)(hs:s.length<=100000)(hn:nm.length<=100000)(M:aj):ar (ag cE) 131 [.agg [au t.nodes,.int .i64 t.next,.int .i64 t.af],.int .i64 dir,.str s,.int .i64 to,.str nm] M =
  some (.tuple [.agg [au (pJ t dir s to nm).1.nodes,.int .i64 (pJ t dir s to nm).1.next,.int .i64 (pJ t dir s to nm).1.af],.int .i64 (pJ t dir s to nm).2.1,.int .i64 (pJ t dir s to nm).2.2],M):=by
 obtain⟨dep,h⟩:=ht;have:=ajc t dir s to nm (h.sz.up (by omega)) h.fN hs trivial hn trivial (fun e he=>h.Qs to nm e he)
 rw[Y1 h] at this;exact lS (cO this M)
def alZ(t:Tree)(ht:Rt t)(ino:Int)(s:Bytes)(hs:s.length<=100000)(M:aj):ar (ag cE) 130 [.agg [au t.nodes,.int .i64 t.next,.int .i64 t.af],.int .i64 ino,.str s] M =
  some (.tuple [.int .i64 (bM t.nodes ino s).1,.int .i64 (bM t.nodes ino s).2],M):=lS (RH t.nodes t.next t.af ino s ht.small ht.fN hs trivial M)
def aex(t:Tree)(ht:Rt t)(ino:Int)(d:Bytes)(hd:d.length<=100000)(M:aj):ar (ag cE) 227 [.agg [au t.nodes,.int .i64 t.next,.int .i64 t.af],.int .i64 ino,bc d] M =
  some (.tuple [.agg [au (j9 t ino d).1.nodes,.int .i64 (j9 t ino d).1.next,.int .i64 (j9 t ino d).1.af],.int .i64 (j9 t ino d).2],M):=lS (cO (akj t ino d ht.small ht.fN hd) M)
def Rt.add{t:Tree}(h:Rt t)(dir:Int)(s:Bytes)(kind:Int):Rt (kf t dir s kind).1:=let ⟨_,g⟩:=h; IK g dir s kind (fun h=>h)
def Rt.ln{t:Tree}(h:Rt t)(ino dir:Int)(s:Bytes):Rt (wL t ino dir s).1:=let ⟨_,g⟩:=h; ⟨_,SH g ino dir s (fun h=>h)⟩
def Rt.un{t:Tree}(h:Rt t)(dir:Int)(s:Bytes):Rt (vo t dir s).1:=let ⟨_,g⟩:=h; ⟨_,T6 g dir s⟩
def Rt.mv{t:Tree}(h:Rt t)(dir:Int)(s:Bytes)(to:Int)(nm:Bytes):Rt (pJ t dir s to nm).1:=let ⟨_,g⟩:=h; Tx g dir s to nm (fun h=>h)
def Rt.put{t:Tree}(h:Rt t)(ino:Int)(d:Bytes):Rt (j9 t ino d).1:=let ⟨_,g⟩:=h; ⟨_,Py g ino d⟩
def nr(t:Tree)(s:Bytes)(hs:s.length<=100000):(dL t s).2.1.length<=1000:=by
 have:=yu s hs;unfold dL;split
 ·simp
 ·split
  ·simp
  ·simp only; omega
abbrev Wk:=aa×Ib×Int
def oX(f:aa)(o:dG):Wk :=
 if ((dX f.s.now o.path).2 != 0)=true then (f,ck,(dX f.s.now o.path).2)
 else (f,⟨0,(aD f.s.now.nodes (dX f.s.now o.path).1).ino,(aD f.s.now.nodes (dX f.s.now o.path).1).kind,0,0,[],[]⟩,0)
def c61(f:aa)(o:dG)(hf:oo f)(ho:p6 o):gP 61 f o (oX f o):=by
 unfold gP;refine⟨.slice .c0 [],.slice .c0 [],.inr ⟨rfl,?_⟩,.inr ⟨rfl,?_⟩,ai ?_⟩
 ·unfold oX; split<;>rfl
 ·unfold oX; split<;>rfl
 have q1:=fun {M}=>DW f o o.path hf.rt.small hf.rt.fN (by have:=ho.path; omega) (p:=0) (M:=M)
 unfold oX;generalize dX f.s.now o.path=v at q1 ⊢;simp only[aL,aK,an] at q1;cases he:v.2 != 0
 ·simp only[he,Bool.false_eq_true,if_false] at q1 ⊢;simp only[Rx,E61,aL,aK,bf,q1,bne_self_eq_false,Bool.false_eq_true,if_false,EW,simprocAttr]
 ·simp only[he,if_true,cp] at q1 ⊢;simp only[Rx,E61,aL,aK,bf,ck,q1,he,if_true,cp,EW,simprocAttr]
def si(f:aa)(o:dG):Wk :=
 let v:=dL f.s.now o.path
 let w:=kf f.s.now v.1 v.2.1 o.n
 let r:=dv f w.1 f.bt
 if (v.2.2 != 0)=true then (f,ck,v.2.2)
 else if (w.2.2 != 0)=true then (f,ck,w.2.2)
 else if (r.2 != 0)=true then (r.1,ck,r.2)
 else (r.1,⟨0,w.2.1,o.n,0,0,[],[]⟩,0)
def c62(f:aa)(o:dG)(hf:oo f)(ho:p6 o):gP 62 f o (si f o):=by
 unfold gP;refine⟨.slice .c0 [],.slice .c0 [],.inr ⟨rfl,?_⟩,.inr ⟨rfl,?_⟩,ai ?_⟩
 ·unfold si; simp only[]; split<;>(try split)<;>(try split)<;>rfl
 ·unfold si; simp only[]; split<;>(try split)<;>(try split)<;>rfl
 have hp:o.path.length<=100000:=by have:=ho.path; omega
 have q1:=fun {M}=>LB f o o.path hf.rt.small hf.rt.fN hp (p:=0) (M:=M)
 have hl:=nr f.s.now o.path hp;unfold si;simp only[];generalize dL f.s.now o.path=v at q1 hl ⊢;have q2:=ald f.s.now hf.rt v.1 v.2.1 o.n (by omega)
 have hr:=hf.rt.add v.1 v.2.1 o.n;generalize kf f.s.now v.1 v.2.1 o.n=w at q2 hr ⊢;have q3:=lX w.2.2;have q4:=fun {M}=>Hi f o w.1 f.bt hf hr hf.bt hf.jN (p:=0) (M:=M)
 generalize dv f w.1 f.bt=r at q4 ⊢;simp only[aL,aK] at q1 q4;cases he:v.2.2 != 0
 ·simp only[he,Bool.false_eq_true,if_false] at q1 ⊢;cases hw:w.2.2 != 0
  ·simp only[hw,Bool.false_eq_true,if_false] at q3 ⊢;cases hs:r.2 != 0
   ·simp only[hs,Bool.false_eq_true,if_false] at q4 ⊢;simp only[GZ,E62,aL,aK,bf,q1,q2,q3,q4,bne_self_eq_false,Bool.false_eq_true,if_false,EW,simprocAttr]
   ·simp only[hs,if_true,cp] at q4 ⊢;simp only[GZ,E62,aL,aK,bf,ck,q1,q2,q3,q4,hs,if_true,EW,simprocAttr]
  ·simp only[hw,if_true,cp] at q3 ⊢;simp only[GZ,E62,aL,aK,bf,ck,q1,q2,q3,hw,if_true,EW,simprocAttr]
 ·simp only[he,if_true,cp] at q1 ⊢;simp only[GZ,E62,aL,aK,bf,ck,q1,he,if_true,EW,simprocAttr]
def al0(t:Tree)(ht:Rt t)(l:List bI)(c h ino:Int)(hl:ko l)(hn:l.length<=64)(M:aj):ar (ag cE) 135 [.agg [au t.nodes,.int .i64 t.next,.int .i64 t.af],cj l,.int .i64 c,.int .i64 h,.int .i64 ino] M=some (.tuple [cj (lH t l c h ino).1,.int .i64 (lH t l c h ino).2],M):=lS (ali t l c h ino ht.small ht.fN hl hn M)
def al1(t:Tree)(ht:Rt t)(l:List bI)(c h:Int)(hn:l.length<=64)(M:aj):ar (ag cE) 136 [.agg [au t.nodes,.int .i64 t.next,.int .i64 t.af],cj l,.int .i64 c,.int .i64 h] M=some (.tuple [.agg (ak (eo t l c h).1),cj (eo t l c h).2.1,.int .i64 (eo t l c h).2.2],M):=lS (adZ t l c h ht.small ht.fN hn M)
def alk(t:Tree)(l:List ba)(ino nodes bytes:Int)(ht:Rt t)(hq:iH l)(hn:l.length<=16)(M:aj):ar (ag cE) 141 [.agg [au t.nodes,.int .i64 t.next,.int .i64 t.af],a8 l,.int .i64 ino,.int .i64 nodes,.int .i64 bytes] M=some (.tuple [a8 (lJ t l ino nodes bytes).1,.int .i64 (lJ t l ino nodes bytes).2],M) :=
 lS (cO (ajk t l ino nodes bytes ht hq hn) M)
def aey(f:aa)(hf:oo f)(t:Tree)(ht:Rt t)(M:aj):ar (ag cE) 137 [.agg (aE f.s),.agg [au t.nodes,.int .i64 t.next,.int .i64 t.af]] M=some (.agg (aE (mj f.s t)),M) :=
 lS (ad0 f.s t hf.rt.fN hf.rt.sz ht.fN ht.sz (by have:=hf.taken; omega) hf.len (by have:=hf.bq; omega) M)
def Rt.gone{t:Tree}(h:Rt t)(c:Int):∀(l k:List bI),Rt (iu c l t k).1:=by
 intro l;induction l generalizing t with
 |nil=>intro k; exact h
 |cons x r ih =>
  intro k;rw[iu];split
  ·exact ih (h.close _ _ _) _
  ·exact ih h _
def Fp{α:Type}{lt:α->Bool}{R:α->α->Prop}{l:List α}{b:Nat}(h:l.Pairwise R)(hl:IC lt l b){x:α}(h1:∀y,y∈l->lt y=true->R y x)(h2:∀y,y∈l->lt y=false->R x y)(ht:∀a b c,R a b->R b c->R a c):(l.take b++x::l.drop b).Pairwise R:=by
 have hT:∀y,y∈l.take b->R y x:=by
  intro y hy;obtain⟨i,hi⟩:=List.getElem?_of_mem hy;rw[List.getElem?_take] at hi;split at hi
  ·rename_i hib;exact h1 y (List.mem_of_getElem? hi) ((hl.lt i y hi).2 hib)
  ·cases hi
 have hD:∀y,y∈l.drop b->R x y:=by
  intro y hy;obtain⟨i,hi⟩:=List.getElem?_of_mem hy;rw[List.getElem?_drop] at hi;refine h2 y (List.mem_of_getElem? hi) ?_;cases he:lt y
  ·rfl
  ·have:=(hl.lt _ y hi).1 he; omega
 rw[List.pairwise_append];refine⟨h.sublist (List.take_sublist _ _),List.pairwise_cons.2 ⟨hD,h.sublist (List.drop_sublist _ _)⟩,?_⟩;intro a ha c hc;rcases List.mem_cons.1 hc with rfl|hc
 ·exact hT a ha
 ·exact ht _ _ _ (hT a ha) (hD c hc)
def yL{t:Tree}{l:List ba}(hq:iH l)(hn:l.length<=16)(ino nodes bytes:Int):iH (lJ t l ino nodes bytes).1/\(lJ t l ino nodes bytes).1.length<=16:=by
 have hlow:=tT hq ino;have hat:=IT (key:=ba.ino) hq ino;have e1:Ly ba.ino l ino=Fs l ino:=rfl;have e2:nc ba.ino l ino=vj l ino:=rfl;rw[e1,e2] at hat;unfold lJ;split
 ·exact⟨hq,hn⟩
 split
 ·exact⟨hq,hn⟩
 split
 ·split
  ·exact⟨hq.sublist (List.eraseIdx_sublist _ _),Nat.le_trans (List.eraseIdx_sublist _ _).length_le hn⟩
  ·exact⟨hq,hn⟩
 split
 ·exact⟨hq,hn⟩
 split
 ·rename_i hi;rcases hat with ⟨_,n,h2,h3,_⟩|⟨h1,_⟩
  ·refine⟨?_,by simpa using hn⟩
   have hm:((l.set (vj l ino) ⟨ino,nodes,bytes⟩).map ba.ino)=l.map ba.ino:=by
    rw[List.map_set];have hlt:=(List.getElem?_eq_some_iff.1 h2).1;refine List.ext_getElem? fun i=>?_
    rw[List.getElem?_set];split
    ·rename_i hh;subst hh;simp only[List.length_map,hlt,if_true,List.getElem?_map,h2,Option.map_some,h3]
    ·rfl
   have:((l.set (vj l ino) ⟨ino,nodes,bytes⟩).map ba.ino).Pairwise (· < ·):=by rw[hm]; exact List.pairwise_map.2 hq
   exact List.pairwise_map.1 this
  ·rw[hi] at h1; cases h1
 split
 ·exact⟨hq,hn⟩
 ·rename_i hi hlen
  have hne:∀y,y∈l->y.ino≠ino:=by
   rcases hat with ⟨h1,_⟩|⟨_,h2⟩
   ·exact absurd h1 hi
   ·intro y hy; have:=List.find?_eq_none.1 h2 y hy; simpa using this
  simp only[ge_iff_le,decide_eq_true_eq] at hlen;refine⟨Fp hq hlow (fun y hy h=>?_) (fun y hy h=>?_) (fun a b c h1 h2=>Int.lt_trans h1 h2),by simp; have:=hlow.le; omega⟩
  ·simp only[decide_eq_true_eq,pA] at h; exact h
  ·simp only[decide_eq_false_iff_not,pA] at h; have:=hne y hy; simp only; omega
def se(f:aa)(o:dG):Wk :=
 let v:=dX f.s.now o.path
 let n:=aD f.s.now.nodes v.1
 let s:=dL f.s.now o.lU
 let w:=wL f.s.now n.ino s.1 s.2.1
 let r:=dv f w.1 f.bt
 if (v.2 != 0)=true then (f,ck,v.2) else
 if (s.2.2 != 0)=true then (f,ck,s.2.2) else
 if (w.2 != 0)=true then (f,ck,w.2) else
 if (r.2 != 0)=true then (r.1,ck,r.2) else
 (r.1,⟨0,n.ino,0,0,0,[],[]⟩,0)
def c63(f:aa)(o:dG)(hf:oo f)(ho:p6 o):gP 63 f o (se f o):=by
 unfold gP;have hp:o.path.length<=100000:=by have:=ho.path; omega
 have hto:o.lU.length<=100000:=by have:=ho.lU; omega
 refine⟨.slice .c0 [],.slice .c0 [],.inr ⟨rfl,?_⟩,.inr ⟨rfl,?_⟩,ai ?_⟩
 ·unfold se; simp only[]; split<;>(try split)<;>(try split)<;>(try split)<;>rfl
 ·unfold se; simp only[]; split<;>(try split)<;>(try split)<;>(try split)<;>rfl
 unfold se;simp only[];have q1:=fun {M}=>DW f o o.path hf.rt.small hf.rt.fN hp (p:=0) (M:=M)
 generalize dX f.s.now o.path=v at q1 ⊢;have q1:=@q1;generalize aD f.s.now.nodes v.1=n at q1 ⊢;have hl:=nr f.s.now o.lU hto;have q2:=fun {M}=>LB f o o.lU hf.rt.small hf.rt.fN hto (p:=0) (M:=M)
 have hl:=hl;generalize dL f.s.now o.lU=s at q2 hl ⊢;have q3:=ale f.s.now hf.rt n.ino s.1 s.2.1 (by omega)
 have hr:=hf.rt.ln n.ino s.1 s.2.1;generalize wL f.s.now n.ino s.1 s.2.1=w at q3 hr ⊢;have q5:=fun {M}=>Hi f o w.1 f.bt hf hr hf.bt hf.jN (p:=0) (M:=M)
 generalize dv f w.1 f.bt=r at q5 ⊢;simp only[aL,aK,an,aE,ak] at q1 q2 q3 q5;cases h0:v.2 != 0
 ·cases h1:s.2.2 != 0
  ·cases h2:w.2 != 0
   ·cases h3:r.2 != 0
    ·simp only[DQ,E63,aL,aK,bf,ck,q1,q2,q3,q5,h0,h1,h2,h3,lX,bne_self_eq_false,Bool.false_eq_true,if_true,if_false,EW,simprocAttr]
    ·simp only[DQ,E63,aL,aK,bf,ck,q1,q2,q3,q5,h0,h1,h2,h3,cp,lX,bne_self_eq_false,Bool.false_eq_true,if_true,if_false,EW,simprocAttr]
   ·simp only[DQ,E63,aL,aK,bf,ck,q1,q2,q3,q5,h0,h1,h2,cp,lX,bne_self_eq_false,Bool.false_eq_true,if_true,if_false,EW,simprocAttr]
  ·simp only[DQ,E63,aL,aK,bf,ck,q1,q2,q3,q5,h0,h1,cp,lX,bne_self_eq_false,Bool.false_eq_true,if_true,if_false,EW,simprocAttr]
 ·simp only[DQ,E63,aL,aK,bf,ck,q1,q2,q3,q5,h0,cp,lX,bne_self_eq_false,Bool.false_eq_true,if_true,if_false,EW,simprocAttr]
def kO(f:aa)(o:dG):Wk :=
 let s:=dL f.s.now o.path
 let w:=vo f.s.now s.1 s.2.1
 let r:=dv f w.1 f.bt
 if (s.2.2 != 0)=true then (f,ck,s.2.2) else
 if (w.2.2 != 0)=true then (f,ck,w.2.2) else
 if (r.2 != 0)=true then (r.1,ck,r.2) else
 (r.1,⟨0,w.2.1,0,0,0,[],[]⟩,0)
def c64(f:aa)(o:dG)(hf:oo f)(ho:p6 o):gP 64 f o (kO f o):=by
 unfold gP;have hp:o.path.length<=100000:=by have:=ho.path; omega
 have hto:o.lU.length<=100000:=by have:=ho.lU; omega
 refine⟨.slice .c0 [],.slice .c0 [],.inr ⟨rfl,?_⟩,.inr ⟨rfl,?_⟩,ai ?_⟩
 ·unfold kO; simp only[]; split<;>(try split)<;>(try split)<;>rfl
 ·unfold kO; simp only[]; split<;>(try split)<;>(try split)<;>rfl
 unfold kO;simp only[];have hl:=nr f.s.now o.path hp;have q2:=fun {M}=>LB f o o.path hf.rt.small hf.rt.fN hp (p:=0) (M:=M)
 have hl:=hl;generalize dL f.s.now o.path=s at q2 hl ⊢;have q3:=alf f.s.now hf.rt s.1 s.2.1 (by omega)
 have hr:=hf.rt.un s.1 s.2.1;generalize vo f.s.now s.1 s.2.1=w at q3 hr ⊢;have q5:=fun {M}=>Hi f o w.1 f.bt hf hr hf.bt hf.jN (p:=0) (M:=M)
 generalize dv f w.1 f.bt=r at q5 ⊢;simp only[aL,aK,an,aE,ak] at q2 q3 q5;cases h0:s.2.2 != 0
 ·cases h1:w.2.2 != 0
  ·cases h2:r.2 != 0
   ·simp only[G2,E64,aL,aK,bf,ck,q2,q3,q5,h0,h1,h2,lX,bne_self_eq_false,Bool.false_eq_true,if_true,if_false,EW,simprocAttr]
   ·simp only[G2,E64,aL,aK,bf,ck,q2,q3,q5,h0,h1,h2,cp,lX,bne_self_eq_false,Bool.false_eq_true,if_true,if_false,EW,simprocAttr]
  ·simp only[G2,E64,aL,aK,bf,ck,q2,q3,q5,h0,h1,cp,lX,bne_self_eq_false,Bool.false_eq_true,if_true,if_false,EW,simprocAttr]
 ·simp only[G2,E64,aL,aK,bf,ck,q2,q3,q5,h0,cp,lX,bne_self_eq_false,Bool.false_eq_true,if_true,if_false,EW,simprocAttr]
def kL(f:aa)(o:dG):Wk :=
 let s:=dL f.s.now o.path
 let u:=dL f.s.now o.lU
 let l:=bM f.s.now.nodes s.1 s.2.1
 let w:=pJ f.s.now s.1 s.2.1 u.1 u.2.1
 let r:=dv f w.1 f.bt
 if (s.2.2 != 0)=true then (f,ck,s.2.2) else
 if (u.2.2 != 0)=true then (f,ck,u.2.2) else
 if (l.2 != 0)=true then (f,ck,l.2) else
 if (w.2.2 != 0)=true then (f,ck,w.2.2) else
 if (r.2 != 0)=true then (r.1,ck,r.2) else
 (r.1,⟨0,l.1,0,0,0,[],[]⟩,0)
def c65(f:aa)(o:dG)(hf:oo f)(ho:p6 o):gP 65 f o (kL f o):=by
 unfold gP;have hp:o.path.length<=100000:=by have:=ho.path; omega
 have hto:o.lU.length<=100000:=by have:=ho.lU; omega
 refine⟨.slice .c0 [],.slice .c0 [],.inr ⟨rfl,?_⟩,.inr ⟨rfl,?_⟩,ai ?_⟩
 ·unfold kL; simp only[]; split<;>(try split)<;>(try split)<;>(try split)<;>(try split)<;>rfl
 ·unfold kL; simp only[]; split<;>(try split)<;>(try split)<;>(try split)<;>(try split)<;>rfl
 unfold kL;simp only[];have hl:=nr f.s.now o.path hp;have q1:=fun {M}=>LB f o o.path hf.rt.small hf.rt.fN hp (p:=0) (M:=M)
 have hl:=hl;generalize dL f.s.now o.path=s at q1 hl ⊢;have hl2:=nr f.s.now o.lU hto;have q2:=fun {M}=>LB f o o.lU hf.rt.small hf.rt.fN hto (p:=0) (M:=M)
 have hl2:=hl2;generalize dL f.s.now o.lU=u at q2 hl2 ⊢;have q3:=alZ f.s.now hf.rt s.1 s.2.1 (by omega)
 generalize bM f.s.now.nodes s.1 s.2.1=l at q3 ⊢;have q4:=alg f.s.now hf.rt s.1 s.2.1 u.1 u.2.1 (by omega) (by omega)
 have hr:=hf.rt.mv s.1 s.2.1 u.1 u.2.1;generalize pJ f.s.now s.1 s.2.1 u.1 u.2.1=w at q4 hr ⊢;have q5:=fun {M}=>Hi f o w.1 f.bt hf hr hf.bt hf.jN (p:=0) (M:=M)
 generalize dv f w.1 f.bt=r at q5 ⊢;simp only[aL,aK,an,aE,ak] at q1 q2 q3 q4 q5;cases h0:s.2.2 != 0
 ·cases h1:u.2.2 != 0
  ·cases h2:l.2 != 0
   ·cases h3:w.2.2 != 0
    ·cases h4:r.2 != 0
     ·simp only[BB,E65,aL,aK,bf,ck,q1,q2,q3,q4,q5,h0,h1,h2,h3,h4,lX,bne_self_eq_false,Bool.false_eq_true,if_true,if_false,EW,simprocAttr]
     ·simp only[BB,E65,aL,aK,bf,ck,q1,q2,q3,q4,q5,h0,h1,h2,h3,h4,cp,lX,bne_self_eq_false,Bool.false_eq_true,if_true,if_false,EW,simprocAttr]
    ·simp only[BB,E65,aL,aK,bf,ck,q1,q2,q3,q4,q5,h0,h1,h2,h3,cp,lX,bne_self_eq_false,Bool.false_eq_true,if_true,if_false,EW,simprocAttr]
   ·simp only[BB,E65,aL,aK,bf,ck,q1,q2,q3,q4,q5,h0,h1,h2,cp,lX,bne_self_eq_false,Bool.false_eq_true,if_true,if_false,EW,simprocAttr]
  ·simp only[BB,E65,aL,aK,bf,ck,q1,q2,q3,q4,q5,h0,h1,cp,lX,bne_self_eq_false,Bool.false_eq_true,if_true,if_false,EW,simprocAttr]
 ·simp only[BB,E65,aL,aK,bf,ck,q1,q2,q3,q4,q5,h0,cp,lX,bne_self_eq_false,Bool.false_eq_true,if_true,if_false,EW,simprocAttr]
def pf(f:aa)(o:dG):Wk :=
 let v:=dX f.s.now o.path
 let n:=aD f.s.now.nodes v.1
 if (v.2 != 0)=true then (f,ck,v.2) else
 (f,⟨0,n.ino,n.kind,n.bE,sS n,[],[]⟩,0)
def c67(f:aa)(o:dG)(hf:oo f)(ho:p6 o):gP 67 f o (pf f o):=by
 unfold gP;have hp:o.path.length<=100000:=by have:=ho.path; omega
 have hto:o.lU.length<=100000:=by have:=ho.lU; omega
 refine⟨.slice .c0 [],.slice .c0 [],.inr ⟨rfl,?_⟩,.inr ⟨rfl,?_⟩,ai ?_⟩
 ·unfold pf; simp only[]; split<;>rfl
 ·unfold pf; simp only[]; split<;>rfl
 unfold pf;simp only[];have q1:=fun {M}=>DW f o o.path hf.rt.small hf.rt.fN hp (p:=0) (M:=M)
 generalize dX f.s.now o.path=v at q1 ⊢;have q1:=@q1;generalize aD f.s.now.nodes v.1=n at q1 ⊢;have q2:=fun M=>Xd n M
 simp only[aL,aK,an,aE,ak] at q1 q2;cases h0:v.2 != 0
 ·simp only[Ry,E67,aL,aK,bf,ck,q1,q2,h0,bne_self_eq_false,Bool.false_eq_true,if_true,if_false,EW,simprocAttr]
 ·simp only[Ry,E67,aL,aK,bf,ck,q1,q2,h0,cp,bne_self_eq_false,Bool.false_eq_true,if_true,if_false,EW,simprocAttr]
def sr(f:aa)(o:dG):Wk :=
 let v:=dX f.s.now o.path
 let n:=aD f.s.now.nodes v.1
 let w:=lH f.s.now f.holds o.aV o.handle n.ino
 if (v.2 != 0)=true then (f,ck,v.2) else
 if (w.2 != 0)=true then (f,ck,w.2) else
 (⟨f.s,w.1,f.bt⟩,⟨0,n.ino,0,0,0,[],[]⟩,0)
def c68(f:aa)(o:dG)(hf:oo f)(ho:p6 o):gP 68 f o (sr f o):=by
 unfold gP;have hp:o.path.length<=100000:=by have:=ho.path; omega
 have hto:o.lU.length<=100000:=by have:=ho.lU; omega
 refine⟨.slice .c0 [],.slice .c0 [],.inr ⟨rfl,?_⟩,.inr ⟨rfl,?_⟩,ai ?_⟩
 ·unfold sr; simp only[]; split<;>(try split)<;>rfl
 ·unfold sr; simp only[]; split<;>(try split)<;>rfl
 unfold sr;simp only[];have q1:=fun {M}=>DW f o o.path hf.rt.small hf.rt.fN hp (p:=0) (M:=M)
 generalize dX f.s.now o.path=v at q1 ⊢;have q1:=@q1;generalize aD f.s.now.nodes v.1=n at q1 ⊢;have q2:=al0 f.s.now hf.rt f.holds o.aV o.handle n.ino hf.holds hf.hlen;generalize lH f.s.now f.holds o.aV o.handle n.ino=w at q2 ⊢;simp only[aL,aK,an,aE,ak] at q1 q2;cases h0:v.2 != 0
 ·cases h1:w.2 != 0
  ·simp only[Lg,E68,aL,aK,bf,ck,q1,q2,h0,h1,lX,bne_self_eq_false,Bool.false_eq_true,if_true,if_false,EW,simprocAttr]
  ·simp only[Lg,E68,aL,aK,bf,ck,q1,q2,h0,h1,cp,lX,bne_self_eq_false,Bool.false_eq_true,if_true,if_false,EW,simprocAttr]
 ·simp only[Lg,E68,aL,aK,bf,ck,q1,q2,h0,cp,lX,bne_self_eq_false,Bool.false_eq_true,if_true,if_false,EW,simprocAttr]
def nH(f:aa)(o:dG):Wk :=
 let w:=eo f.s.now f.holds o.aV o.handle
 let p:=mj f.s w.1
 if (w.2.2 != 0)=true then (f,ck,w.2.2) else
 (⟨p,w.2.1,f.bt⟩,ck,0)
def c69(f:aa)(o:dG)(hf:oo f)(ho:p6 o):gP 69 f o (nH f o):=by
 unfold gP;have hp:o.path.length<=100000:=by have:=ho.path; omega
 have hto:o.lU.length<=100000:=by have:=ho.lU; omega
 refine⟨.slice .c0 [],.slice .c0 [],.inr ⟨rfl,?_⟩,.inr ⟨rfl,?_⟩,ai ?_⟩
 ·unfold nH; simp only[]; split<;>rfl
 ·unfold nH; simp only[]; split<;>rfl
 unfold nH;simp only[];have q2:=al1 f.s.now hf.rt f.holds o.aV o.handle hf.hlen;have hr:=hf.rt.close f.holds o.aV o.handle;generalize eo f.s.now f.holds o.aV o.handle=w at q2 hr ⊢;have q3:=aey f hf w.1 hr;generalize mj f.s w.1=p at q3 ⊢;simp only[aL,aK,an,aE,ak] at q2 q3;cases h0:w.2.2 != 0
 ·simp only[Rz,E69,aL,aK,bf,ck,q2,q3,h0,lX,bne_self_eq_false,Bool.false_eq_true,if_true,if_false,EW,simprocAttr]
 ·simp only[Rz,E69,aL,aK,bf,ck,q2,q3,h0,cp,lX,bne_self_eq_false,Bool.false_eq_true,if_true,if_false,EW,simprocAttr]
def nN(f:aa)(o:dG):Wk :=
 let v:=dX f.s.now o.path
 let n:=aD f.s.now.nodes v.1
 let w:=lJ f.s.now f.bt n.ino o.n o.m
 let r:=dv f f.s.now w.1
 if (v.2 != 0)=true then (f,ck,v.2) else
 if (w.2 != 0)=true then (f,ck,w.2) else
 if (r.2 != 0)=true then (r.1,ck,r.2) else
 (r.1,⟨0,n.ino,0,0,0,[],[]⟩,0)
def c73(f:aa)(o:dG)(hf:oo f)(ho:p6 o):gP 73 f o (nN f o):=by
 unfold gP;have hp:o.path.length<=100000:=by have:=ho.path; omega
 have hto:o.lU.length<=100000:=by have:=ho.lU; omega
 refine⟨.slice .c0 [],.slice .c0 [],.inr ⟨rfl,?_⟩,.inr ⟨rfl,?_⟩,ai ?_⟩
 ·unfold nN; simp only[]; split<;>(try split)<;>(try split)<;>rfl
 ·unfold nN; simp only[]; split<;>(try split)<;>(try split)<;>rfl
 unfold nN;simp only[];have q1:=fun {M}=>DW f o o.path hf.rt.small hf.rt.fN hp (p:=0) (M:=M)
 generalize dX f.s.now o.path=v at q1 ⊢;have q1:=@q1;generalize aD f.s.now.nodes v.1=n at q1 ⊢;have q2:=alk f.s.now f.bt n.ino o.n o.m hf.rt hf.bt hf.jN;have hr:=yL (t:=f.s.now) hf.bt hf.jN n.ino o.n o.m;generalize lJ f.s.now f.bt n.ino o.n o.m=w at q2 hr ⊢;have q5:=fun {M}=>Hi f o f.s.now w.1 hf hf.rt hr.1 hr.2 (p:=0) (M:=M)
 generalize dv f f.s.now w.1=r at q5 ⊢;simp only[aL,aK,an,aE,ak] at q1 q2 q5;cases h0:v.2 != 0
 ·cases h1:w.2 != 0
  ·cases h2:r.2 != 0
   ·simp only[G3,E73,aL,aK,bf,ck,q1,q2,q5,h0,h1,h2,lX,bne_self_eq_false,Bool.false_eq_true,if_true,if_false,EW,simprocAttr]
   ·simp only[G3,E73,aL,aK,bf,ck,q1,q2,q5,h0,h1,h2,cp,lX,bne_self_eq_false,Bool.false_eq_true,if_true,if_false,EW,simprocAttr]
  ·simp only[G3,E73,aL,aK,bf,ck,q1,q2,q5,h0,h1,cp,lX,bne_self_eq_false,Bool.false_eq_true,if_true,if_false,EW,simprocAttr]
 ·simp only[G3,E73,aL,aK,bf,ck,q1,q2,q5,h0,cp,lX,bne_self_eq_false,Bool.false_eq_true,if_true,if_false,EW,simprocAttr]
def sV(f:aa)(o:dG):Wk :=
 let v:=dX f.s.now o.path
 let n:=aD f.s.now.nodes v.1
 let w:=takeN f.s n.ino
 if (v.2 != 0)=true then (f,ck,v.2) else
 if (w.2.2 != 0)=true then (f,ck,w.2.2) else
 (⟨w.1,f.holds,f.bt⟩,⟨0,0,0,w.2.1,0,[],[]⟩,0)
def c74(f:aa)(o:dG)(hf:oo f)(ho:p6 o):gP 74 f o (sV f o):=by
 unfold gP;have hp:o.path.length<=100000:=by have:=ho.path; omega
 have hto:o.lU.length<=100000:=by have:=ho.lU; omega
 refine⟨.slice .c0 [],.slice .c0 [],.inr ⟨rfl,?_⟩,.inr ⟨rfl,?_⟩,ai ?_⟩
 ·unfold sV; simp only[]; split<;>(try split)<;>rfl
 ·unfold sV; simp only[]; split<;>(try split)<;>rfl
 unfold sV;simp only[];have q1:=fun {M}=>DW f o o.path hf.rt.small hf.rt.fN hp (p:=0) (M:=M)
 generalize dX f.s.now o.path=v at q1 ⊢;have q1:=@q1;generalize aD f.s.now.nodes v.1=n at q1 ⊢;have q2:=fun M=>lS (alm f.s n.ino hf.rt.small hf.rt.fN hf.taken M)
 generalize takeN f.s n.ino=w at q2 ⊢;simp only[aL,aK,an,aE,ak] at q1 q2;cases h0:v.2 != 0
 ·cases h1:w.2.2 != 0
  ·simp only[Li,E74,aL,aK,bf,ck,q1,q2,h0,h1,lX,bne_self_eq_false,Bool.false_eq_true,if_true,if_false,EW,simprocAttr]
  ·simp only[Li,E74,aL,aK,bf,ck,q1,q2,h0,h1,cp,lX,bne_self_eq_false,Bool.false_eq_true,if_true,if_false,EW,simprocAttr]
 ·simp only[Li,E74,aL,aK,bf,ck,q1,q2,h0,cp,lX,bne_self_eq_false,Bool.false_eq_true,if_true,if_false,EW,simprocAttr]
def rS(f:aa)(o:dG):Wk :=
 let w:=p9 f.s o.n
 if (w.2 != 0)=true then (f,ck,w.2) else
 (⟨w.1,f.holds,f.bt⟩,ck,0)
def c76(f:aa)(o:dG)(hf:oo f)(ho:p6 o):gP 76 f o (rS f o):=by
 unfold gP;have hp:o.path.length<=100000:=by have:=ho.path; omega
 have hto:o.lU.length<=100000:=by have:=ho.lU; omega
 refine⟨.slice .c0 [],.slice .c0 [],.inr ⟨rfl,?_⟩,.inr ⟨rfl,?_⟩,ai ?_⟩
 ·unfold rS; simp only[]; split<;>rfl
 ·unfold rS; simp only[]; split<;>rfl
 unfold rS;simp only[];have q2:=fun M=>lS (alp f.s o.n (by have:=hf.taken; omega) (by have:=hf.bq; omega) M)
 generalize p9 f.s o.n=w at q2 ⊢;simp only[aL,aK,an,aE,ak] at q2;cases h0:w.2 != 0
 ·simp only[RA,E76,aL,aK,bf,ck,q2,h0,lX,bne_self_eq_false,Bool.false_eq_true,if_true,if_false,EW,simprocAttr]
 ·simp only[RA,E76,aL,aK,bf,ck,q2,h0,cp,lX,bne_self_eq_false,Bool.false_eq_true,if_true,if_false,EW,simprocAttr]
def oJ(f:aa)(o:dG):Wk :=
 let w:=uK f.s.now f.holds o.aV
 let p:=mj f.s w.1
 (⟨p,w.2,f.bt⟩,ck,0)
def c77(f:aa)(o:dG)(hf:oo f)(ho:p6 o):gP 77 f o (oJ f o):=by
 unfold gP;have hp:o.path.length<=100000:=by have:=ho.path; omega
 have hto:o.lU.length<=100000:=by have:=ho.lU; omega
 refine⟨.slice .c0 [],.slice .c0 [],.inr ⟨rfl,?_⟩,.inr ⟨rfl,?_⟩,ai ?_⟩
 ·unfold oJ; simp only[]; skip<;>rfl
 ·unfold oJ; simp only[]; skip<;>rfl
 unfold oJ;simp only[];have q2:=fun M=>lS (alq f.s.now f.holds o.aV hf.rt hf.hlen M)
 have hr:=(show Rt (uK f.s.now f.holds o.aV).1 from hf.rt.gone o.aV _ _)
 generalize uK f.s.now f.holds o.aV=w at q2 hr ⊢;have q3:=aey f hf w.1 hr;generalize mj f.s w.1=p at q3 ⊢;simp only[aL,aK,an,aE,ak] at q2 q3;simp only[WO,E77,aL,aK,bf,ck,q2,q3,bne_self_eq_false,Bool.false_eq_true,if_true,if_false,EW,simprocAttr]
def dh(f:aa)(o:dG):Node×Int :=
 if ((mZ f.holds o.aV o.handle).2 != 0)=true then (Node.zero,(mZ f.holds o.aV o.handle).2)
 else if decide (0<=o.n)=true then (aD f.s.now.nodes (mZ f.holds o.aV o.handle).1,0) else (Node.zero,1)
def c138(f:aa)(o:dG)(hf:oo f):ag cE 138 [.ptr 0 0] [aL f o]=some (if ((dh f o).2 != 0)=true then cp (dh f o).2 else .agg (an (dh f o).1),[aL f o]):=by
 refine ai ?_;have q1:=fun M=>lS (alE f.holds o.aV o.handle (by have:=hf.hlen; omega) M)
 have q2:=fun bb=>Ii bb 1 rfl
 unfold dh;generalize mZ f.holds o.aV o.handle=v at q1 ⊢;have q3:=fun {M}=>aed f o v.1 hf.rt.small hf.rt.fN (p:=0) (M:=M)
 simp only[aL,aK,an] at q3;cases h0:v.2 != 0
 ·cases h1:decide (0<=o.n)
  ·simp only[Be,Vq,aL,aK,an,q1,q2,q3,lX,h0,h1,cp,bne_self_eq_false,Bool.false_eq_true,if_true,if_false,EW,simprocAttr]
  ·simp only[Be,Vq,aL,aK,an,q1,q2,q3,lX,h0,h1,cp,bne_self_eq_false,Bool.false_eq_true,if_true,if_false,EW,simprocAttr]
 ·simp only[Be,Vq,aL,aK,an,q1,q2,q3,lX,h0,cp,bne_self_eq_false,Bool.false_eq_true,if_true,if_false,EW,simprocAttr]
def Xe(f:aa)(o:dG)(hf:oo f){p:Nat}{M:aj}(hM:nth M p=some (aL f o)):ar (ag cE) 138 [.ptr p 0] M=some (if ((dh f o).2 != 0)=true then cp (dh f o).2 else .agg (an (dh f o).1),M):=by
 have:=BP (vs:=[]) hM (c138 f o hf) rfl rfl (by split<;>rfl) (fun _=>rfl) (fun _=>by split<;>rfl)
 rwa[gN hM] at this
def iT(f:aa)(o:dG)(ino:Int)(d:Bytes):Wk :=
 let w:=j9 f.s.now ino d
 let r:=dv f w.1 f.bt
 if (w.2 != 0)=true then (f,ck,w.2) else
 if (r.2 != 0)=true then (r.1,ck,r.2) else
 (r.1,⟨0,ino,0,0,d.length,[],[]⟩,0)
def ajj(f:aa)(o:dG)(hf:oo f)(ino:Int)(d:Bytes)(hd:d.length<=100000):ag cE 140 [.ptr 0 0,.int .i64 ino,bc d] [aL f o] =
  some (if ((iT f o ino d).2.2 != 0)=true then cp (iT f o ino d).2.2 else .tuple [],[bf (iT f o ino d).1 o (iT f o ino d).2.1 (.slice .c0 []) (.slice .c0 [])]):=by
 refine ai ?_;unfold iT;simp only[];have q1:=aex f.s.now hf.rt ino d hd;have hr:=hf.rt.put ino d;generalize j9 f.s.now ino d=w at q1 hr ⊢;have q5:=fun {M}=>Hi f o w.1 f.bt hf hr hf.bt hf.jN (p:=0) (M:=M)
 generalize dv f w.1 f.bt=r at q5 ⊢;simp only[aL,aK] at q5;cases h0:w.2 != 0
 ·cases h1:r.2 != 0
  ·simp only[Bf,Vr,aL,aK,bf,ck,q1,q5,lX,h0,h1,bne_self_eq_false,Bool.false_eq_true,if_true,if_false,EW,simprocAttr]
  ·simp only[Bf,Vr,aL,aK,bf,ck,q1,q5,lX,h0,h1,cp,bne_self_eq_false,Bool.false_eq_true,if_true,if_false,EW,simprocAttr]
 ·simp only[Bf,Vr,aL,aK,bf,ck,q1,q5,lX,h0,cp,bne_self_eq_false,Bool.false_eq_true,if_true,if_false,EW,simprocAttr]
def ad1(f:aa)(o:dG)(hf:oo f)(ino:Int)(d:Bytes)(hd:d.length<=100000){p:Nat}{M:aj}(hM:nth M p=some (aL f o)):ar (ag cE) 140 [.ptr p 0,.int .i64 ino,bc d] M =
  some (if ((iT f o ino d).2.2 != 0)=true then cp (iT f o ino d).2.2 else .tuple [],dA M p (bf (iT f o ino d).1 o (iT f o ino d).2.1 (.slice .c0 []) (.slice .c0 []))) :=
 gj hM (ajj f o hf ino d hd) rfl rfl (by split<;>rfl) rfl (by split<;>rfl) rfl rfl rfl rfl rfl
end
section
def al2(d:Bytes)(hd:d.length<=100000)(M:aj):ar (ag cE) 139 [bc d] M=some (bc d,M):=by
 have h:ag aH 139 [bc d] []=some (bc d,[]):=by
  refine bR (g:=Zi 1 1) rfl ?_
  show Cd 1 1 [bc d] []=_
  unfold Cd;simp only[];have hw:wid (d.map hZ) 1:=by have:=jO d; simpa using this
  have hr:aP (d.map hZ).length 1:=by have:=jn (a:=d.length) (b:=1) (by omega) (by omega); simpa using this
  exact bo ⟨hw,hr⟩
 exact lS (cO h M)
def ur(X w:Bytes)(N:Nat)(h:N+w.length<=X.length):List.take X.length (List.take N (X.map hZ)++(List.take w.length (w.map hZ)++List.drop (N+w.length) (X.map hZ)))=(X.take N++(w++X.drop (N+w.length))).map hZ:=by
 rw[List.take_of_length_le (by simp; omega),List.take_of_length_le (l:=w.map hZ) (by simp)]
 simp
def CM(k:Nat):List.replicate k (ae.agg [.int .u8 0]).norm=(List.replicate k (0:UInt8)).map hZ:=by
 rw[List.map_replicate]; rfl
def Ll(M:aj)(id ver sz lo hi:Nat):ae.ot M (.aW id ver sz lo hi)=match nth M id with
  |some (.arr _ v xs)=>if v=ver then .slice .sh ((xs.take hi).drop lo) else .any
  |_ => .any:=rfl
def p93{d:Bytes}(h0:d≠[])(hd:d.length<=100000)(b:aM)(M:aj):ag cE 139 [.slice .sh (d.map hZ)] (b::M)=some (.aW (M.length+1) 0 1 0 d.length,(b::M)++[.arr 1 0 (d.map hZ)]):=by
 refine lS' (bR (g:=Zi 1 1) rfl ?_)
 show fq 1 1 [.slice .sh (d.map hZ)] (b::M)=_
 obtain⟨a,r,rfl⟩:=List.exists_cons_of_ne_nil h0;have hw:wid ((a::r).map hZ) 1:=by have:=jO (a::r); simpa using this
 have hr:aP ((a::r).map hZ).length 1:=by have:=jn (a:=(a::r).length) (b:=1) (by omega) (by omega); simpa using this
 unfold fq;simp only[List.map_cons] at hw hr ⊢;rw[bo ⟨hw,hr⟩];simp
def ahi{d:Bytes}(h0:d=[])(b:aM)(M:aj):ag cE 139 [.slice .sh (d.map hZ)] (b::M)=some (.slice .c0 [],b::M):=by
 subst h0;exact lS' (bR (g:=Zi 1 1) rfl rfl)
def tX(a:Int)(n:Nat):Nat:=(if (n:Int)<a then (n:Int) else a).toNat
def sk{a:Int}(h:0<=a)(n:Nat):(if (n:Int)<a then (n:Int) else a)=(tX a n:Int)/\tX a n<=n:=by
 unfold tX; split<;>omega
def zB{f:aa}{o:dG}(h:((dh f o).2 != 0)=false):0<=o.n/\∃i,(dh f o).1=aD f.s.now.nodes i:=by
 unfold dh at h ⊢;split at h
 ·rename_i h1; rw[h1] at h; cases h
 ·rename_i h1;split at h
  ·rename_i h2; rw[if_neg h1,if_pos h2]; exact⟨by simpa using h2,_,rfl⟩
  ·cases h
def sn{f:aa}(hf:oo f)(i:Int):(aD f.s.now.nodes i).data.length<=4096/\(aD f.s.now.nodes i).av.length<=64:=by
 obtain⟨dep,h⟩:=hf.rt;unfold aD;cases hi:find f.s.now.nodes i with
 |none=>simp[Node.zero]
 |some n =>
  simp only[Option.getD_some];refine⟨?_,(h.pV _ _ hi).2⟩;rcases h.kind _ _ hi with h1|h1
  ·exact(h.file _ _ hi h1).2.2
  ·rw[h.dir _ _ hi h1]; simp
attribute [local irreducible] bS cz fu gK bG kr ag ar aQ aG
def zp(f:aa)(o:dG):Wk :=
 if ((dh f o).2 != 0)=true then (f,ck,(dh f o).2)
 else iT f o (dh f o).1.ino ((dh f o).1.data.take (tX o.n (dh f o).1.data.length))
def pE(f:aa)(o:dG)(ino:Int)(d:Bytes):(iT f o ino d).2.1.names=[]/\(iT f o ino d).2.1.data=[]:=by
 unfold iT; simp only[]; split
 ·exact⟨rfl,rfl⟩
 ·split<;>exact⟨rfl,rfl⟩
def c72(f:aa)(o:dG)(hf:oo f)(ho:p6 o):gP 72 f o (zp f o):=by
 unfold gP;refine⟨.slice .c0 [],.slice .c0 [],.inr ⟨rfl,?_⟩,.inr ⟨rfl,?_⟩,ai ?_⟩
 ·unfold zp; split
  ·rfl
  ·rw[(pE ..).1]; rfl
 ·unfold zp; split
  ·rfl
  ·rw[(pE ..).2]; rfl
 have q1:=fun {M}=>Xe f o hf (p:=0) (M:=M)
 have hn:=zB (f:=f) (o:=o);unfold zp;cases h0:(dh f o).2 != 0
 ·obtain⟨hn0,i,hi⟩:=hn h0;have hsz:=(sn hf i).1;rw[<-hi] at hsz;generalize (dh f o).1=n at q1 hsz ⊢;generalize (dh f o).2=e at q1 h0 ⊢;obtain⟨m1,m2⟩:=sk hn0 n.data.length;generalize tX o.n n.data.length=mn at m1 m2 ⊢;have q2:=fun {M}=>ad1 f o hf n.ino (n.data.take mn) (by simp; omega) (p:=0) (M:=M)
  generalize iT f o n.ino (n.data.take mn)=r at q2 ⊢;have hle:((mn:Int)<=(n.data.length:Int))=True:=by simp; omega
  have hz:((0:Int)<=(mn:Int))=True:=by simp
  simp only[aL,aK,bf,an,bc,List.map_take] at q1 q2;cases h1:r.2.2 != 0
  ·simp only[Lh,E72,aL,aK,bf,an,q1,q2,h0,h1,m1,hle,hz,bX,cp,Bool.false_eq_true,if_true,if_false,EW,simprocAttr]
  ·simp only[Lh,E72,aL,aK,bf,an,q1,q2,h0,h1,m1,hle,hz,bX,cp,Bool.false_eq_true,if_true,if_false,EW,simprocAttr]
 ·simp only[aL,aK,an] at q1;simp only[Lh,E72,aL,aK,bf,ck,an,q1,h0,cp,Bool.false_eq_true,if_true,if_false,EW,simprocAttr]
def ik(f:aa)(o:dG):Wk :=
 if ((dh f o).2 != 0)=true then (f,ck,(dh f o).2) else
 if (!(decide (0<=o.m)&&decide (o.m<=4096)))=true then (f,ck,1) else
 (f,⟨0,(dh f o).1.ino,0,0,0,[],((dh f o).1.data.drop (tX o.n (dh f o).1.data.length)).take (tX o.m ((dh f o).1.data.length-tX o.n (dh f o).1.data.length))⟩,0)
def c70(f:aa)(o:dG)(hf:oo f)(ho:p6 o):gP 70 f o (ik f o):=by
 unfold gP;have q1:=fun {M}=>Xe f o hf (p:=0) (M:=M)
 have hn:=zB (f:=f) (o:=o);have q2:=fun bb=>Ii bb 1 rfl
 unfold ik;cases h0:(dh f o).2 != 0
 ·obtain⟨hn0,i,hi⟩:=hn h0;have hsz:=(sn hf i).1;rw[<-hi] at hsz;generalize (dh f o).1=n at q1 hsz ⊢;generalize (dh f o).2=e at q1 h0 ⊢;obtain⟨m1,m2⟩:=sk hn0 n.data.length;generalize tX o.n n.data.length=mn at m1 m2 ⊢;have hle:((mn:Int)<=(n.data.length:Int))=True:=by simp; omega
  have hz:∀k:Nat,((0:Int)<=(k:Int))=True:=fun k=>by simp
  have ht:List.take n.data.length (n.data.map hZ)=n.data.map hZ:=List.take_of_length_le (by simp)
  have hlen:(List.drop mn (n.data.map hZ)).length=n.data.length-mn:=by simp
  cases h1:(!(decide (0<=o.m)&&decide (o.m<=4096)))
  ·have h1':decide (0<=o.m)=true/\decide (o.m<=4096)=true:=by simpa using h1
   have hm0:0<=o.m:=by simpa using h1'.1
   obtain⟨p1,p2⟩:=sk hm0 (n.data.length-mn);generalize tX o.m (n.data.length-mn)=mm at p1 p2 ⊢;have hle2:((mm:Int)<=((n.data.length-mn:Nat):Int))=True:=by simp; omega
   have hw1:wid (List.drop mn (n.data.map hZ)) 1=True:=by have:=jO (n.data.drop mn); rwa[List.map_drop] at this
   have q3:=fun M=>al2 ((n.data.drop mn).take mm) (by simp; omega) M
   refine⟨.slice .c0 [],bc ((n.data.drop mn).take mm),.inr ⟨rfl,rfl⟩,.inl rfl,ai ?_⟩;simp only[aL,aK,an,bc,List.map_take,List.map_drop] at q1 q3;simp only[DR,E70,aL,aK,bf,an,q1,q2,q3,h0,h1'.1,h1'.2,m1,p1,hle,hle2,hz,ht,hlen,hw1,bX,bc,List.map_drop,Int.le_refl,bne_self_eq_false,Bool.false_eq_true,if_true,if_false,EW,simprocAttr]
  ·refine⟨.slice .c0 [],.slice .c0 [],.inr ⟨rfl,rfl⟩,.inr ⟨rfl,rfl⟩,ai ?_⟩
   have h1':(decide (0<=o.m)&&decide (o.m<=4096))=false:=by
    cases hx:(decide (0<=o.m)&&decide (o.m<=4096))
    ·rfl
    ·rw[hx] at h1; cases h1
   simp only[aL,aK,an,bc] at q1;cases ha:decide (0<=o.m)<;>cases hb:decide (o.m<=4096)<;>simp only[ha,hb,Bool.and_self,Bool.and_false,Bool.false_and,Bool.and_true] at h1'
   ·simp only[DR,E70,aL,aK,bf,ck,an,q1,q2,h0,ha,hb,cp,Bool.false_eq_true,if_true,if_false,EW,simprocAttr]
   ·simp only[DR,E70,aL,aK,bf,ck,an,q1,q2,h0,ha,hb,cp,Bool.false_eq_true,if_true,if_false,EW,simprocAttr]
   ·simp only[DR,E70,aL,aK,bf,ck,an,q1,q2,h0,ha,hb,cp,Bool.false_eq_true,if_true,if_false,EW,simprocAttr]
   ·cases h1'
 ·refine⟨.slice .c0 [],.slice .c0 [],.inr ⟨rfl,rfl⟩,.inr ⟨rfl,rfl⟩,ai ?_⟩;simp only[aL,aK,an] at q1;simp only[DR,E70,aL,aK,bf,ck,an,q1,h0,cp,Bool.false_eq_true,if_true,if_false,EW,simprocAttr]
def fX(d:Bytes)(n:Nat)(w:Bytes):Bytes :=
 if w=[] then d else (d++List.replicate (n+w.length-d.length) 0).take n++(w++(d++List.replicate (n+w.length-d.length) 0).drop (n+w.length))
def nU(f:aa)(o:dG):Wk :=
 if ((dh f o).2 != 0)=true then (f,ck,(dh f o).2) else
 if (!decide (o.n<=4096))=true then (f,ck,1) else
 if (!decide (((o.n.toNat+o.data.length:Nat):Int)<=4096))=true then (f,ck,2) else
 iT f o (dh f o).1.ino (fX (dh f o).1.data o.n.toNat o.data)
def c71(f:aa)(o:dG)(hf:oo f)(ho:p6 o):gP 71 f o (nU f o):=by
 unfold gP;refine⟨.slice .c0 [],.slice .c0 [],.inr ⟨rfl,?_⟩,.inr ⟨rfl,?_⟩,ai ?_⟩
 ·unfold nU; split
  ·rfl
  ·split
   ·rfl
   ·split
    ·rfl
    ·rw[(pE ..).1]; rfl
 ·unfold nU; split
  ·rfl
  ·split
   ·rfl
   ·split
    ·rfl
    ·rw[(pE ..).2]; rfl
 have q1:=fun {M}=>Xe f o hf (p:=0) (M:=M)
 have hn:=zB (f:=f) (o:=o);have q2:=fun bb=>Ii bb 1 rfl
 have q3:=fun bb=>Ii bb 2 rfl
 unfold nU;cases h0:(dh f o).2 != 0
 ·obtain⟨hn0,i,hi⟩:=hn h0;have hsz:=(sn hf i).1;rw[<-hi] at hsz;generalize (dh f o).1=n at q1 hsz ⊢;generalize (dh f o).2=e at q1 h0 ⊢;simp only[aL,aK,an] at q1;cases h1:decide (o.n<=4096)
  ·simp only[xD,Ui,aL,aK,bf,ck,an,q1,q2,h0,h1,cp,Bool.false_eq_true,if_true,if_false,EW,simprocAttr]
  ·have hn1:o.n<=4096:=by simpa using h1
   obtain⟨N,hN⟩:∃N:Nat,o.n=(N:Int):=⟨o.n.toNat,by omega⟩
   have hdl:=ho.data;have hw:IntKind.i64.wrap ((N:Int)+(o.data.length:Int))=((N+o.data.length:Nat):Int):=by rw[cL (by omega) (by omega)]; omega
   have hT:o.n.toNat=N:=by omega
   rw[hT];rw[hN] at q1 h1;cases h2:decide (((N+o.data.length:Nat):Int)<=4096)
   ·simp only[xD,Ui,aL,aK,bf,ck,an,q1,q2,q3,h0,h1,h2,hw,hN,cp,Bool.false_eq_true,if_true,if_false,EW,simprocAttr]
   ·have hE:N+o.data.length<=4096:=by
     have:((N+o.data.length:Nat):Int)<=4096:=by simpa using h2
     omega
    have hwl:(fX n.data N o.data).length<=100000:=by
     unfold fX; split
     ·omega
     ·simp; omega
    have q4:=fun {M}=>ad1 f o hf n.ino (fX n.data N o.data) hwl (p:=0) (M:=M)
    generalize iT f o n.ino (fX n.data N o.data)=r at q4 ⊢;simp only[aL,aK,bf,bc,hN] at q4
    by_cases hD:o.data=[]
    ·have hg:((0:Int)<(o.data.length:Int))=False:=by simp[hD]
     have hwr:fX n.data N o.data=n.data:=by unfold fX; rw[if_pos hD]
     rw[hwr] at q4
     by_cases hd0:n.data=[]
     ·have p1:=ahi (d:=n.data) hd0;rw[hd0] at q4;simp only[List.map_nil] at q4;cases h3:r.2.2 != 0<;>simp only[xD,Ui,aL,aK,bf,an,q1,q2,q3,q4,p1,h0,h1,h2,h3,hN,hw,hg,cp,bc,FZ,Ll,kC,Bool.false_eq_true,if_true,if_false,EW,simprocAttr]
     ·have p1:=p93 (d:=n.data) hd0 (by omega)
      have ht:List.take n.data.length (n.data.map hZ)=n.data.map hZ:=List.take_of_length_le (by simp)
      cases h3:r.2.2 != 0<;>simp only[xD,Ui,aL,aK,bf,an,q1,q2,q3,q4,p1,h0,h1,h2,h3,hN,hw,hg,ht,cp,bc,FZ,Ll,kC,Bool.false_eq_true,if_true,if_false,EW,simprocAttr]
    ·have hdl0:0<o.data.length:=List.length_pos_iff.2 hD;have hg:((0:Int)<(o.data.length:Int))=True:=by simp; omega
     have hwb:=jO o.data
     by_cases hd0:n.data=[]
     ·have p1:=ahi (d:=n.data) hd0;have hk:IntKind.i64.wrap (((N+o.data.length:Nat):Int)-0)=((N+o.data.length:Nat):Int):=by rw[cL (by omega) (by omega)]; simp
      have hm:(((N+o.data.length:Nat):Int)<0)=False:=by simp; omega
      have hmi:min o.data.length (N+o.data.length-N)=o.data.length:=by omega
      have rk:aP (N+o.data.length) 1=True:=jx;have b0:(((N+o.data.length:Nat):Int)==0)=false:=by simp; omega
      have b1:((N:Int)==((N+o.data.length:Nat):Int))=false:=by simp; omega
      have b2:((N:Int)<=((N+o.data.length:Nat):Int))=True:=by simp; omega
      have b3:(((N+o.data.length:Nat):Int)<=((N+o.data.length:Nat):Int))=True:=by simp
      have hz:=CM (N+o.data.length);have htl:=ur (List.replicate (N+o.data.length) 0) o.data N (by simp)
      have hwr:fX n.data N o.data=(List.replicate (N+o.data.length) 0).take N++(o.data++(List.replicate (N+o.data.length) 0).drop (N+o.data.length)):=by
       unfold fX; rw[if_neg hD,hd0]; simp
      rw[hwr,<-htl] at q4;rw[List.length_replicate] at q4;have l1:(0<((List.replicate (N+o.data.length) (0:UInt8)).map hZ).length)=True:=by simp; omega
      generalize (List.replicate (N+o.data.length) (0:UInt8)).map hZ=X at hz q4 l1;cases h3:r.2.2 != 0<;>simp only[xD,Ui,aL,aK,bf,an,q1,q2,q3,q4,p1,h0,h1,h2,h3,hN,hw,hg,hk,hm,hmi,hwb,rk,b0,b1,b2,b3,hz,l1,bX,cp,bc,FZ,Ll,kC,Nat.sub_zero,Bool.false_eq_true,if_true,if_false,EW,simprocAttr]
     ·have p1:=p93 (d:=n.data) hd0 (by omega)
      have hL0:0<n.data.length:=List.length_pos_iff.2 hd0;have l0:(0<n.data.length)=True:=by simp; omega
      have hwn:=jO n.data
      by_cases hE2:N+o.data.length<=n.data.length
      ·have hk:IntKind.i64.wrap (((N+o.data.length:Nat):Int)-(n.data.length:Int))=((N+o.data.length:Nat):Int)-(n.data.length:Int):=cL (by omega) (by omega)
       have hmx:(if ((N+o.data.length:Nat):Int)-(n.data.length:Int)<0 then (0:Int) else ((N+o.data.length:Nat):Int)-(n.data.length:Int))=0:=by split<;>omega
       have hmi:min o.data.length (n.data.length-N)=o.data.length:=by omega
       have rk:aP (n.data.length+0) 1=True:=jx;have rk0:aP n.data.length 1=True:=jx;have b1:((N:Int)==(n.data.length:Int))=false:=by simp; omega
       have b2:((N:Int)<=(n.data.length:Int))=True:=by simp; omega
       have htl:=ur n.data o.data N hE2
       have hwr:fX n.data N o.data=n.data.take N++(o.data++n.data.drop (N+o.data.length)):=by
        unfold fX; rw[if_neg hD,show N+o.data.length-n.data.length=0 by omega]; simp
       rw[hwr,<-htl] at q4;cases h3:r.2.2 != 0<;>simp only[xD,Ui,aL,aK,bf,an,q1,q2,q3,q4,p1,h0,h1,h2,h3,hN,hw,hg,hk,hmx,hmi,hwb,hwn,rk,rk0,l0,b1,b2,bX,cp,bc,Int.le_refl,FZ,Ll,kC,Nat.sub_zero,Bool.false_eq_true,if_true,if_false,EW,simprocAttr]
      ·have hk:IntKind.i64.wrap (((N+o.data.length:Nat):Int)-(n.data.length:Int))=((N+o.data.length:Nat):Int)-(n.data.length:Int):=cL (by omega) (by omega)
       have hmx:(if ((N+o.data.length:Nat):Int)-(n.data.length:Int)<0 then (0:Int) else ((N+o.data.length:Nat):Int)-(n.data.length:Int))=((N+o.data.length-n.data.length:Nat):Int):=by split<;>omega
       have hsum:n.data.length+(N+o.data.length-n.data.length)=N+o.data.length:=by omega
       have hmi:min o.data.length (N+o.data.length-N)=o.data.length:=by omega
       have rk:aP (N+o.data.length) 1=True:=jx;have b0:(((N+o.data.length-n.data.length:Nat):Int)==0)=false:=by simp; omega
       have b1:((N:Int)==((N+o.data.length:Nat):Int))=false:=by simp; omega
       have b2:((N:Int)<=((N+o.data.length:Nat):Int))=True:=by simp; omega
       have hz:=CM (N+o.data.length-n.data.length);have htl:=ur (n.data++List.replicate (N+o.data.length-n.data.length) 0) o.data N (by simp; omega)
       have hwr:fX n.data N o.data=(n.data++List.replicate (N+o.data.length-n.data.length) 0).take N++(o.data++(n.data++List.replicate (N+o.data.length-n.data.length) 0).drop (N+o.data.length)):=by
        unfold fX; rw[if_neg hD]
       rw[hwr,<-htl] at q4;have hlX:(n.data++List.replicate (N+o.data.length-n.data.length) (0:UInt8)).length=N+o.data.length:=by simp; omega
       rw[hlX,List.map_append] at q4;have l1:(0<N+o.data.length)=True:=by simp; omega
       have lz:((List.replicate (N+o.data.length-n.data.length) (0:UInt8)).map hZ).length=N+o.data.length-n.data.length:=by simp
       generalize (List.replicate (N+o.data.length-n.data.length) (0:UInt8)).map hZ=Z at hz q4 lz;cases h3:r.2.2 != 0<;>simp only[xD,Ui,aL,aK,bf,an,q1,q2,q3,q4,p1,h0,h1,h2,h3,hN,hw,hg,hk,hmx,hsum,hmi,hwb,hwn,rk,l0,l1,lz,b0,b1,b2,hz,bX,cp,bc,Int.le_refl,FZ,Ll,kC,Nat.sub_zero,Bool.false_eq_true,if_true,if_false,EW,simprocAttr]
 ·simp only[aL,aK,an] at q1;simp only[xD,Ui,aL,aK,bf,ck,an,q1,h0,cp,Bool.false_eq_true,if_true,if_false,EW,simprocAttr]
end
section
attribute [local irreducible] bS cz fu gK bG kr ag ar aQ aG
def acE(z:Int):ag aH 145 [.slice .sh [],.func 215 [.ptr 0 0]] [.cells [.int .i64 z]]=some (.int .i64 (-1),[.cells [.int .i64 z]]):=by
 have h00:decide ((0:Int)<0)=false:=rfl;have hz:((0:Nat):Int)=0:=rfl;refine ai ?_;simp only[Bh,pT,hz,EN,simprocAttr];rw[aC];simp only[pT,h00,EN,simprocAttr]
end
def ad2(z:Int):ar (ag aH) 145 [.slice .sh [],.func 215 [.ptr 0 0]] [.cells [.int .i64 z]]=some (.int .i64 (-1),[.cells [.int .i64 z]]) :=
 eE (ids:=[0]) rfl rfl (show dK [.cells [.int .i64 z]] (da [0]) [0]=some [.cells [.int .i64 z]] from rfl) rfl rfl (acE z) rfl rfl rfl rfl rfl
section
attribute [local irreducible] bS cz fu gK bG kr ag ar aQ aG
def acO(z:Int):ag aH 213 [.slice .sh [],.func 215 [.ptr 0 0]] [.cells [.int .i64 z]]=some (.slice .sh [],[.cells [.int .i64 z]]):=by
 have h11:((-1:Int) == -1)=true:=rfl;refine ai ?_;simp only[Bq,zg,ad2,h11,EN,simprocAttr]
end
def ael(z:Int)(b0 b2 b3:aM):ar (ag aH) 213 [.slice .sh [],.func 215 [.ptr 1 0]] [b0,.cells [.int .i64 z],b2,b3]=some (.slice .sh [],[b0,.cells [.int .i64 z],b2,b3]) :=
 eE (ids:=[1]) rfl rfl (show dK [b0,.cells [.int .i64 z],b2,b3] (da [1]) [1]=some [.cells [.int .i64 z]] from rfl) rfl rfl (acO z) rfl rfl rfl rfl rfl
def U5(b0 b2 b3:aM)(xs:List ae)(z:Int):dK [b0,.cells [.int .i64 z],b2,b3,.arr 3 0 xs] (da [4,1]) [4,1]=some [.arr 3 0 xs,.cells [.int .i64 z]]:=rfl
def alA(xs:List ct)(z:Int)(hn:xs.length<=100000)(h0:xs≠[])(hk:eS z xs≠[])(b0 b2 b3:aM):ar (ag aH) 213 [.aW 4 0 3 0 xs.length,.func 215 [.ptr 1 0]] [b0,.cells [.int .i64 z],b2,b3,.arr 3 0 (xs.map cn)] =
  some (.aW 4 0 3 0 (eS z xs).length,[b0,.cells [.int .i64 z],b2,b3,.arr 3 0 ((eS z xs++List.replicate (xs.length-(eS z xs).length) CL).map cn)]):=by
 have h:=acN xs z hn h0;have hl:(eS z xs).length≠0:=fun hh=>hk (List.length_eq_zero_iff.1 hh)
 have hr:z6 (eS z xs).length = .aW 0 0 3 0 (eS z xs).length:=by simp[z6,hl]
 rw[hr] at h;exact eE (ids:=[4,1]) rfl rfl (U5 ..) rfl rfl h rfl rfl rfl rfl rfl
def aem(xs:List ct)(z:Int)(hn:xs.length<=100000)(h0:xs≠[])(hk:eS z xs=[])(b0 b2 b3:aM):ar (ag aH) 213 [.aW 4 0 3 0 xs.length,.func 215 [.ptr 1 0]] [b0,.cells [.int .i64 z],b2,b3,.arr 3 0 (xs.map cn)] =
  some (.slice .sh [],[b0,.cells [.int .i64 z],b2,b3,.arr 3 0 ((List.replicate xs.length CL).map cn)]):=by
 have h:=acN xs z hn h0;have hr:z6 (eS z xs).length = .slice .sh []:=by simp[z6,hk]
 rw[hr,hk] at h;simp only[List.nil_append,List.length_nil,Nat.sub_zero] at h;exact eE (ids:=[4,1]) rfl rfl (U5 ..) rfl rfl h rfl rfl rfl rfl rfl
section
attribute [local irreducible] bS cz fu gK bG kr ag ar aQ aG
end
section
def ym(x:ct):List ct->List ct
 | []=>[x]
 |y::r=>if x.af<y.af then x::y::r else y::ym x r
def lN:List ct->List ct
 | []=>[]
 |x::r=>ym x (lN r)
def alX(n:ct):kE 2 (cn n)=n.af:=rfl
def BI(x:ct):∀l:List ct,wA 2 (cn x) (l.map cn)=(ym x l).map cn
 | []=>rfl
 |y::r=>by
  simp only[List.map_cons,wA,ym,alX]
  by_cases h:x.af<y.af
  ·simp only[h,if_true,List.map_cons]
  ·simp only[h,if_false,List.map_cons,BI x r]
def yP:∀l:List ct,jo 2 (l.map cn)=(lN l).map cn
 | []=>rfl
 |x::r=>by simp only[List.map_cons,jo,lN,yP r,BI]
def yn(x:ct):∀l,(ym x l).length=l.length+1
 | []=>rfl
 |y::r=>by simp only[ym]; split<;>simp[yn x r]
def rA:∀l,(lN l).length=l.length
 | []=>rfl
 |x::r=>by simp[lN,yn,rA r]
def Em{l Z:List ct}{v:Nat}(hl:l.length<=1000000)(hn:(l.map ct.af).Nodup):ag aH 216 [.aW 0 v 3 0 l.length,.func 217 []] [.arr 3 v ((l++Z).map cn)]=some (.tuple [],[.arr 3 v ((lN l++Z).map cn)]):=by
 refine bR (g:=mi 3 2 217) rfl ?_;unfold mi;simp only[nth];have ht:((l++Z).map cn).take l.length=l.map cn:=by simp[List.take_append_of_le_length]
 have hd:((l++Z).map cn).drop l.length=Z.map cn:=by simp
 rw[ht,hd,yP,<-List.map_append];rw[bo]
 ·rfl
 ·refine⟨trivial,trivial,trivial,by simp,trivial,by omega,?_,?_⟩
  ·intro x hx;obtain⟨n,_,rfl⟩:=List.mem_map.1 hx;rfl
  ·rw[List.map_map];exact hn
def ahm(xs:List ae)(v:Nat)(b0 b1 b2 b3:aM):dK [b0,b1,b2,b3,.arr 3 v xs] (da [4]) [4]=some [.arr 3 v xs]:=rfl
attribute [local irreducible] bS cz fu gK bG kr ag ar aQ aG
def alB{l Z:List ct}{v:Nat}(hl:l.length<=1000000)(hn:(l.map ct.af).Nodup)(b0 b1 b2 b3:aM):ar (ag aH) 216 [.aW 4 v 3 0 l.length,.func 217 []] [b0,b1,b2,b3,.arr 3 v ((l++Z).map cn)]=some (.tuple [],[b0,b1,b2,b3,.arr 3 v ((lN l++Z).map cn)]) :=
 eE (ids:=[4]) rfl rfl (ahm _ _ ..) rfl rfl (Em hl hn) rfl rfl rfl rfl rfl
def UU(M:aj):ar (ag aH) 216 [.slice .sh [],.func 217 []] M=some (.tuple [],M):=by
 have h:ag aH 216 [.slice .sh [],.func 217 []] []=some (.tuple [],[]):=by
  refine bR (g:=mi 3 2 217) rfl ?_;unfold mi;simp only[if_true]
 exact cO h M
def wk(nodes:List Node)(ino z:Int):List ct:=lN (eS z (cK nodes ino).1.av)
def oW(t:Tree)(ino z m:Int):List ct×Int×Int :=
 if (decide (z<0)||(decide (m<1)||decide (64<m)))=true then ([],0,1)
 else if ((cK t.nodes ino).2 != 0)=true then ([],0,(cK t.nodes ino).2)
 else if decide (((wk t.nodes ino z).length:Int)<=m)=true then (wk t.nodes ino z,0,0)
 else ((wk t.nodes ino z).take m.toNat,fO (((wk t.nodes ino z).getD (m.toNat-1) CL).af+1),0)
def tq{t:Tree}{dep:Int->Nat}(h:bK t dep 0)(ino:Int):((cK t.nodes ino).1.av.map ct.af).Nodup/\(cK t.nodes ino).1.av.length<=64:=by
 unfold cK;cases hi:find t.nodes ino with
 |none=>exact⟨List.nodup_nil,by simp[Node.zero]⟩
 |some n =>
  simp only;split
  ·exact⟨by rw[List.nodup_iff_pairwise_ne,List.pairwise_map]; exact(h.pV _ _ hi).1,(h.pV _ _ hi).2⟩
  ·exact⟨List.nodup_nil,by simp[Node.zero]⟩
def ajd(t:Tree)(ht:Rt t)(ino z m:Int):ag aH 132 [aA t,.int .i64 ino,.int .i64 z,.int .i64 m] []=some (.tuple [cT (oW t ino z m).1,.int .i64 (oW t ino z m).2.1,.int .i64 (oW t ino z m).2.2],[]):=by
 obtain⟨dep,h⟩:=ht;refine ai ?_;have q1:=fun b c M=>RO t.nodes t.next t.af ino h.fN.hV (by have:=h.nodes; omega) 2 (b::c :: .cells [au t.nodes,.int .i64 t.next,.int .i64 t.af]::M) rfl
 obtain⟨hnd,h64⟩:=tq h ino;have hknd:((eS z (cK t.nodes ino).1.av).map ct.af).Nodup:=(List.filter_sublist.map _).nodup hnd;have hkl:(eS z (cK t.nodes ino).1.av).length<=64:=Nat.le_trans (List.length_filter_le _ _) h64;unfold oW wk;generalize cK t.nodes ino=d at q1 hnd h64 hknd hkl ⊢;simp only[aF,an] at q1;cases g1:decide (z<0)
 ·cases g2:decide (m<1)
  ·cases g3:decide (64<m)
   ·cases g4:d.2 != 0
    ·obtain⟨M,hM⟩:∃M:Nat,m=(M:Int):=⟨m.toNat,by simp at g2; omega⟩
     subst hM;have hM1:1<=M:=by simp at g2; omega
     have hM64:M<=64:=by simp at g3; omega
     generalize hE:d.1.av=E at q1 hknd hkl h64 ⊢;have c0:∀b0 b2 b3,ar (ag aH) 213 [.slice .sh [],.func 215 [.ptr 1 0]] [b0,.cells [.int .i64 z],b2,b3]=some (.slice .sh [],[b0,.cells [.int .i64 z],b2,b3]):=fun b0 b2 b3=>ael z b0 b2 b3
     have z0:((0:Int)<=(M:Int))=True:=by simp
     by_cases hE0:E=[]
     ·have p1:∀M,ag aH 214 [cT E] M=some (.slice .c0 [],M):=fun M=>by subst hE0; exact ahh M
      have hk:lN (eS z E)=[]:=by subst hE0; rfl
      rw[hk];simp only[qi,Ai,aA,ak,q1,g1,g2,g3,g4,p1,c0,UU,z0,List.length_nil,an,Bool.or_self,Bool.false_eq_true,if_true,if_false,EW,simprocAttr];rfl
     ·have p1:=fun M=>p58 (l:=E) hE0 (by omega) M
      by_cases hK0:eS z E=[]
      ·have p2:=fun b0 b2 b3=>aem E z (by omega) hE0 hK0 b0 b2 b3
       have hk:lN (eS z E)=[]:=by rw[hK0]; rfl
       rw[hk];simp only[qi,Ai,aA,ak,q1,g1,g2,g3,g4,p1,p2,UU,z0,List.length_nil,an,Bool.or_self,Bool.false_eq_true,if_true,if_false,EW,simprocAttr];rfl
      ·have p2:=fun b0 b2 b3=>alA E z (by omega) hE0 hK0 b0 b2 b3
       have hsl:=rA (eS z E);generalize eS z E=kk at p2 hknd hkl hK0 hsl ⊢;generalize List.replicate (E.length-kk.length) CL=Z at p2;have p3:=fun b0 b1 b2 b3=>alB (l:=kk) (Z:=Z) (v:=0) (by omega) hknd b0 b1 b2 b3
       generalize lN kk=ss at p3 hsl ⊢;have tk:List.take kk.length ((ss++Z).map cn)=ss.map cn:=by rw[<-hsl]; simp[List.take_append_of_le_length]
       cases g5:decide ((kk.length:Int)<=(M:Int))
       ·have hlt:M<kk.length:=by simp at g5; omega
        have g6:decide ((ss.length:Int)<=(M:Int))=false:=by rw[hsl]; exact g5
        have hw1:IntKind.i64.wrap ((M:Int)-1)=((M-1:Nat):Int):=by rw[cL (by omega) (by omega)]; omega
        have hx:=List.getElem?_eq_getElem (show M-1<ss.length by omega)
        have hg:ss.getD (M-1) CL=ss[M-1]:=by simp[List.getD,hx]
        have hat:(ss++Z)[M-1]?=some ss[M-1]:=by rw[List.getElem?_append_left (by omega)]; exact hx
        have tm:List.take M ((ss++Z).map cn)=(ss.take M).map cn:=by
         rw[<-List.map_take,List.take_append_of_le_length (by omega)]
        have b1:((M:Int)<=(kk.length:Int))=True:=by simp; omega
        have b2:((M:Int)==0)=false:=by simp; omega
        have b3:((0:Int)==(M:Int))=false:=by simp; omega
        have b4:(((M-1:Nat):Int)<(kk.length:Int))=True:=by simp; omega
        simp only[qi,Ai,aA,ak,q1,g1,g2,g3,g4,g5,g6,p1,p2,p3,z0,hw1,hg,hat,tm,b1,b2,b3,b4,bX,Int.le_refl,Nat.sub_zero,bU,an,Bool.or_self,Bool.false_eq_true,if_true,if_false,EW,simprocAttr];rw[<-List.map_take]
       ·have g6:decide ((ss.length:Int)<=(M:Int))=true:=by rw[hsl]; exact g5
        simp only[qi,Ai,aA,ak,q1,g1,g2,g3,g4,g5,g6,p1,p2,p3,tk,Nat.sub_zero,an,Bool.or_self,Bool.false_eq_true,if_true,if_false,EW,simprocAttr]
    ·simp only[qi,Ai,aA,ak,q1,g1,g2,g3,g4,an,Bool.or_self,Bool.false_eq_true,if_true,if_false,EW,simprocAttr];rfl
   ·simp only[qi,Ai,aA,ak,g1,g2,g3,an,Bool.or_true,Bool.or_self,Bool.false_eq_true,if_true,if_false,EW,simprocAttr];rfl
  ·simp only[qi,Ai,aA,ak,g1,g2,an,Bool.true_or,Bool.or_true,Bool.or_self,Bool.false_eq_true,if_true,if_false,EW,simprocAttr];rfl
 ·simp only[qi,Ai,aA,ak,g1,an,Bool.true_or,Bool.or_self,Bool.false_eq_true,if_true,if_false,EW,simprocAttr];rfl
def alh(t:Tree)(ht:Rt t)(ino z m:Int)(M:aj):ar (ag cE) 132 [.agg [au t.nodes,.int .i64 t.next,.int .i64 t.af],.int .i64 ino,.int .i64 z,.int .i64 m] M=some (.tuple [cT (oW t ino z m).1,.int .i64 (oW t ino z m).2.1,.int .i64 (oW t ino z m).2.2],M) :=
 lS (cO (ajd t ht ino z m) M)
def Hr{t:Tree}(ht:Rt t)(ino z m:Int):(oW t ino z m).1.length<=100000:=by
 obtain⟨dep,h⟩:=ht;have h64:=(tq h ino).2;have hf:(wk t.nodes ino z).length<=64:=by unfold wk; rw[rA]; exact Nat.le_trans (List.length_filter_le _ _) h64
 unfold oW;split
 ·simp
 ·split
  ·simp
  ·split
   ·simp only; omega
   ·simp; omega
def sf(f:aa)(o:dG):Wk :=
 let v:=dX f.s.now o.path
 let l:=oW f.s.now (aD f.s.now.nodes v.1).ino o.n o.m
 if (v.2 != 0)=true then (f,ck,v.2) else
 if (l.2.2 != 0)=true then (f,ck,l.2.2) else
 (f,⟨0,0,0,l.2.1,0,l.1.map ct.name,[]⟩,0)
def c66(f:aa)(o:dG)(hf:oo f)(ho:p6 o):gP 66 f o (sf f o):=by
 unfold gP;have q1:=fun {M}=>DW f o o.path hf.rt.small hf.rt.fN (by have:=ho.path; omega) (p:=0) (M:=M)
 unfold sf;simp only[];generalize dX f.s.now o.path=v at q1 ⊢;generalize aD f.s.now.nodes v.1=n at q1 ⊢;have q2:=alh f.s.now hf.rt n.ino o.n o.m;have hl:=Hr hf.rt n.ino o.n o.m;generalize oW f.s.now n.ino o.n o.m=l at q2 hl ⊢;have q3:=Xc l.1 hl;simp only[aL,aK,an] at q1;cases h0:v.2 != 0
 ·cases h1:l.2.2 != 0
  ·refine⟨bg (l.1.map ct.name),.slice .c0 [],.inl rfl,.inr ⟨rfl,rfl⟩,ai ?_⟩;simp only[Lf,E66,aL,aK,bf,an,q1,q2,q3,lX,h0,h1,bne_self_eq_false,Bool.false_eq_true,if_true,if_false,EW,simprocAttr]
  ·refine⟨.slice .c0 [],.slice .c0 [],.inr ⟨rfl,rfl⟩,.inr ⟨rfl,rfl⟩,ai ?_⟩;simp only[Lf,E66,aL,aK,bf,ck,an,q1,q2,q3,lX,h0,h1,cp,bne_self_eq_false,Bool.false_eq_true,if_true,if_false,EW,simprocAttr]
 ·refine⟨.slice .c0 [],.slice .c0 [],.inr ⟨rfl,rfl⟩,.inr ⟨rfl,rfl⟩,ai ?_⟩;simp only[Lf,E66,aL,aK,bf,ck,an,q1,h0,cp,bne_self_eq_false,Bool.false_eq_true,if_true,if_false,EW,simprocAttr]
end
section
attribute [local irreducible] bS cz fu gK bG kr ag ar aQ aG
def ajo(e:ct)(s:Bytes):ag aH 146 [cn e,.ptr 0 0] [.cells [.str s]]=some (.bool (e.name==s),[.cells [.str s]]):=by
 refine ai ?_;simp only[JT,ah0,cn,bU,EW,simprocAttr]
def Ov{xs:List ct}{s:Bytes}(hn:xs.length<=100000){k:List K}{R:Int->Option (ae×aj)}
  (hx:∀e,kr (ag aH) [.tmp 4] 1 k ⟨.exit 0,e,[aM.cells [.str s]]⟩=R (-1)) (hr:∀(i:Nat),kr (ag aH) [.tmp 4] 1 k ⟨.ret,[(4,.int .i64 i)],[aM.cells [.str s]]⟩=R i) :
  ∀(l pre:List ct),xs=pre++l->bS (ag aH) [.tmp 4] 1 k (.loop [0,1,7,8] FA) [(0,.slice .sh (xs.map cn)),(1,.func 146 [.ptr 0 0]),(7,.int .i64 xs.length),(8,.int .i64 pre.length)] [aM.cells [.str s]]=R (jI (fun e:ct=>e.name==s) l pre.length):=by
 intro l;induction l with
 |nil =>
  intro pre h;rw[aC];simp only[pT,cQ h,EW,simprocAttr];exact hx _
 |cons n rest ih =>
  intro pre h;rw[aC];have hlen:pre.length+1<=100000:=by rw[h] at hn; simp at hn; omega
  have hw:=ny pre n;have hi:=ih (pre++[n]) (by rw[h]; simp)
  simp only[List.length_append,List.length_cons,List.length_nil] at hi;have hk:∀x:ct,ar (ag aH) 146 [.agg (bU x),.ptr 0 0] [aM.cells [.str s]]=some (.bool ((fun e:ct=>e.name==s) x),[aM.cells [.str s]]):=fun x=>pz (f:=146) (p:=0) (vs:=[.agg (bU x)]) (M:=[aM.cells [.str s]]) rfl (ajo x s) rfl rfl rfl rfl rfl rfl rfl rfl rfl
  rw[jI];simp only[pT,cv h,bT h,hk,EW,simprocAttr];refine aB (fun hb=>?_) (fun hb=>?_)
  ·simp only[pT,hb,EW,simprocAttr];exact hr _
  ·simp only[pT,hb,hw,Bool.false_eq_true,EW,simprocAttr];exact hi
def acF(xs:List ct)(s:Bytes)(hn:xs.length<=100000):ag aH 145 [.slice .sh (xs.map cn),.func 146 [.ptr 0 0]] [aM.cells [.str s]]=some (.int .i64 (jI (fun e:ct=>e.name==s) xs 0),[aM.cells [.str s]]):=by
 refine ai ?_;simp only[Bh,pT,EW,simprocAttr];exact Ov (R:=fun i=>some (.int .i64 i,[aM.cells [.str s]])) hn (fun e=>by simp only[pT,EW,simprocAttr]) (fun i=>by simp only[pT,EW,simprocAttr]) xs [] rfl
def F9:List ae:=[.int .i64 0,.int .i64 0,.int .i64 0,.slice .c0 [],.slice .c0 [],.int .i64 0]
def ou(o:Option Node):List ae:=match o with
 |some n=>an n
 |none=>F9
def UX(o:Option Node):jk (.agg [.int .i64 0,.int .i64 0,.int .i64 0,.slice .c0 [],.slice .c0 [],.int .i64 0]) false (o.map aF) = .agg (ou o):=by cases o<;>rfl
def dE(all:AM Node):List Bytes->Option Node->Option Node×Int
 | [],o=>(o,0)
 |s::r,o=>if (!((o.getD Node.zero).kind==2))=true then (o,73) else match (o.getD Node.zero).av.find? (fun e=>e.name==s) with
  |none=>(o,70)
  |some e=>dE all r (cD all e.ino)
def cA(l:List Node)(m:AM Node):AM Node:=l.foldl (fun m n=>gJ m n.ino n) m
def Ts{W:aa×dG}{at':Int}{p:List Bytes}{xs:List Node}(hn:xs.length<=200000){fin:AM Node}{k:List K}{r:Option (ae×aj)}
  (hx:∀e,kr (ag cE) [] 1 k ⟨.exit 0,(0,.ptr 0 0)::(2,.int .i64 at')::(5,bg p)::(6,.cU 1)::e,[aL W.1 W.2,.map (uF fin) (ji aF fin)]⟩=r) :
  ∀(l pre:List Node)(m:AM Node),xs=pre++l->cA l m=fin->bS (ag cE) [] 1 k (.loop [0,2,5,6,42,43,44] YK) [(0,.ptr 0 0),(2,.int .i64 at'),(5,bg p),(6,.cU 1),(42,au xs),(43,.int .i64 xs.length),(44,.int .i64 pre.length)] [aL W.1 W.2,.map (uF m) (ji aF m)]=r:=by
 obtain⟨f,o⟩:=W;simp only[aL,aK] at hx ⊢;intro l;induction l with
 |nil =>
  intro pre m h hfin;rw[aC];simp only[cA,List.foldl_nil] at hfin;subst hfin;simp only[EE,cQ h,EW,simprocAttr];exact hx _
 |cons n rest ih =>
  intro pre m h hfin;rw[aC];have hlen:pre.length+1<=200000:=by rw[h] at hn; simp at hn; omega
  have hw:=ny pre n;have hi1:=ih (pre++[n]) (gJ m n.ino n) (by rw[h]; simp) hfin
  have hput:=lA aF m n.ino n;simp only[aF,an,List.length_append,List.length_cons,List.length_nil,Nat.zero_add] at hi1 hput;simp only[EE,cv h,bT h,an,hw,hput,mapOf.eq_1,Q6,EW,simprocAttr];exact hi1
def Tt{W:aa×dG}{all:AM Node}(hall:∀k n,cD all k=some n->n.av.length<=100000){xs:List Bytes}(hn:xs.length<=100000){fin:Option Node×Int}{k:List K}{r:Option (ae×aj)}
  (hx:fin.2=0->∀e,kr (ag cE) [] 1 k ⟨.exit 2,(0,.ptr 0 0)::(6,.cU 1)::(9,.ptr 2 0)::e,[aL W.1 W.2,.map (uF all) (ji aF all),.cells (ou fin.1)]⟩=r)
  (hp:(fin.2 != 0)=true->∀c d,kr (ag cE) [] 1 k ⟨.fQ (.iface 42 (.int .i64 fin.2)),[],[aL W.1 W.2,.map (uF all) (ji aF all),.cells c,d]⟩=r) :
  ∀(l pre:List Bytes)(o:Option Node),xs=pre++l->(∀n,o=some n->n.av.length<=100000)->dE all l o=fin->bS (ag cE) [] 1 k (.loop [0,6,9,56,57,58] YL) [(0,.ptr 0 0),(6,.cU 1),(9,.ptr 2 0),(56,bg xs),(57,.int .i64 xs.length),(58,.int .i64 pre.length)] [aL W.1 W.2,.map (uF all) (ji aF all),.cells (ou o)]=r:=by
 obtain⟨f,op⟩:=W;simp only[aL,aK] at hx hp ⊢;intro l;induction l with
 |nil =>
  intro pre o h ho hfin;rw[aC];rw[dE] at hfin;subst hfin;cases o<;>simp only[ou,F9,an,EE,cQ h,Q6,EW,simprocAttr] at hx ⊢ <;> exact hx trivial _
 |cons s rest ih =>
  intro pre o h ho hfin;rw[aC];have hlen:pre.length+1<=100000:=by rw[h] at hn; simp at hn; omega
  have hw:=ny pre s;have q2:=fun bb=>Ii bb 73 rfl
  have q3:=fun bb=>Ii bb 70 rfl
  cases o with
  |none =>
   have hf:dE all (s::rest) none=(none,73):=rfl;rw[hf] at hfin;subst hfin;have h02:((0:Int)==2)=false:=rfl;simp only[ou,F9,EE,cv h,bT h,h02,q2,cp,Bool.false_eq_true,if_false,EW,simprocAttr];exact hp rfl _ _
  |some n =>
   rw[dE] at hfin;simp only[Option.getD_some] at hfin;cases hk:n.kind==2
   ·rw[hk] at hfin;simp only[Bool.not_false,if_true] at hfin;subst hfin;simp only[ou,an,EE,cv h,bT h,hk,q2,cp,Bool.false_eq_true,if_false,EW,simprocAttr];exact hp rfl _ _
   ·rw[hk] at hfin;simp only[Bool.not_true,Bool.false_eq_true,if_false] at hfin;have hne:=ho n rfl;have q4:∀M,nth M 3=some (.cells [.str s])->ar (ag cE) 145 [cT n.av,.func 146 [.ptr 3 0]] M=some (.int .i64 (jI (fun e:ct=>e.name==s) n.av 0),M):=fun M hM=>lS (rL hM (acF n.av s hne) rfl rfl rfl)
    rcases pF (fun e:ct=>e.name==s) n.av 0 with ⟨i1,i2⟩|⟨j,e,i1,i2,i3,_⟩
    ·rw[i2] at hfin;simp only at hfin;subst hfin;rw[i1] at q4;have hneg:(0<=(-1:Int))=False:=by simp
     simp only[ou,an,EE,cv h,bT h,hk,q2,q3,q4,hneg,cp,Bool.false_eq_true,if_true,if_false,EW,simprocAttr];exact hp rfl _ _
    ·rw[i3] at hfin;simp only at hfin;rw[i1,Nat.zero_add] at q4;have hi:=ih (pre++[s]) (cD all e.ino) (by rw[h]; simp) (fun m hm=>hall _ _ hm) hfin
     have hlg:=UX (cD all e.ino);simp only[List.length_append,List.length_cons,List.length_nil,Nat.zero_add] at hi;have hisC:(ou (cD all e.ino)).all ae.dp=true:=by cases cD all e.ino<;>rfl
     have hlC:(ou (cD all e.ino)).length=6:=by cases cD all e.ino<;>rfl
     have hbC:∀B M,List.map (ae.eH B M) (ou (cD all e.ino))=ou (cD all e.ino):=fun B M=>by cases cD all e.ino<;>rfl
     generalize ou (cD all e.ino)=gc at hi hlg hisC hlC hbC;simp only[ou,an,bU,EE,cv h,bT h,hk,q2,q3,q4,i2,gX,hlg,hisC,hlC,hbC,hw,mapOf.eq_1,Q6,Bool.false_eq_true,if_true,if_false,EW,simprocAttr];exact hi
def H5{all:AM Node}{P:Node->Prop}(hall:∀k n,cD all k=some n->P n):∀(f:Nat)(ino:Int)(st:VS),(∀n,n∈st.2->P n)->∀n,n∈(dM all f ino st).2.2->P n:=by
 intro f;induction f with
 |zero=>intro ino st h; exact h
 |succ f ih =>
  intro ino st h;rw[dM];split
  ·exact h
  ·split
   ·exact h
   ·rename_i h1;cases hn:cD all ino with
    |none=>simp[hn] at h1
    |some n =>
     simp only[Option.getD_some]
     have hfold:∀(l:List ct)(w:Bool×VS),(∀n,n∈w.2.2->P n)->∀n,n∈(l.foldl (fun w e=>((dM all f e.ino w.2).1&&w.1,(dM all f e.ino w.2).2)) w).2.2->P n:=by
      intro l;induction l with
      |nil=>intro w hw; exact hw
      |cons e r ihr =>
       intro w hw;rw[List.foldl_cons];exact ihr _ (ih e.ino w.2 hw)
     refine hfold _ _ ?_;intro m hm;simp only[List.mem_append,List.mem_singleton] at hm;rcases hm with hm|rfl
     ·exact h m hm
     ·exact hall _ _ hn
def B7(x y:Node):∀l:List Node,y∈zC x l->y=x\/y∈l
 | [],h=>by simp[zC] at h; exact .inl h
 |z::r,h=>by
  simp only[zC] at h;split at h
  ·simpa using h
  ·rcases List.mem_cons.1 h with h|h
   ·exact .inr (by simp[h])
   ·rcases B7 x y r h with h|h
    ·exact .inl h
    ·exact .inr (by simp[h])
def yA(y:Node):∀l:List Node,y∈uX l->y∈l
 | [],h=>h
 |x::r,h=>by
  rcases B7 x y _ h with h|h
  ·simp[h]
  ·exact List.mem_cons_of_mem _ (yA y r h)
def wO:∀(l:List Node)(m:AM Node)(k:Int)(n:Node),cD (cA l m) k=some n->n∈l\/cD m k=some n
 | [],m,k,n,h => .inr h
 |x::r,m,k,n,h=>by
  have h':cD (cA r (gJ m x.ino x)) k=some n:=h;rcases wO r _ k n h' with h|h
  ·exact .inl (by simp[h])
  ·rw[fU] at h;split at h
   ·injection h with h; exact .inl (by simp[h])
   ·exact .inr h
def oo.all{f:aa}(hf:oo f)(a:Int):pY (qQ f.s a)/\(qQ f.s a).length<=100200:=by
 obtain⟨g1,g2⟩:=o6 a f.s.bq [] ⟨fun k n h=>(by cases h),fun k n h=>(by cases h)⟩ (fun p hp=>by have:=(hf.ub p hp).1; omega)
 obtain⟨g3,g4⟩:=tY a f.s.now.nodes f.s.since (f.s.bq.foldl (fV a) []) g1 (fun n hn=>by have:=hf.rt.sz.av n hn; omega)
 refine⟨g3,?_⟩;have:=hf.rt.sz.nodes; have h3:=hf.bq;simp at g2; unfold qQ; omega
def VM{f:aa}(hf:oo f)(id:Int):(vh f.s id).2.1.length<=200000/\∀n,n∈(vh f.s id).2.1->n.av.length<=100000:=by
 unfold vh;split
 ·rename_i x _;obtain⟨h1,h2⟩:=hf.all x.at';have hg:=pk (all:=qQ f.s x.at') h1.own 200001 x.ino ([],[]);refine⟨?_,fun n hn=>?_⟩
  ·have:=hg.len; have h3:=nP (qQ f.s x.at') [];simp only[List.length_nil] at this;simp only[wx,uj,pj]; omega
  ·have:=yA n _ hn;exact H5 (P:=fun n=>n.av.length<=100000) h1.av 200001 x.ino ([],[]) (fun n h=>by cases h) n this
 ·exact⟨by simp,fun n h=>by cases h⟩
def sv(f:aa)(o:dG):Wk :=
 let a:=vh f.s o.n
 let p:=cJ o.path
 let r:=dE (cA a.2.1 []) p.1 (cD (cA a.2.1 []) a.1)
 if (a.2.2 != 0)=true then (f,ck,a.2.2) else
 if (p.2 != 0)=true then (f,ck,p.2) else
 if (r.2 != 0)=true then (f,ck,r.2) else
 (f,⟨0,(r.1.getD Node.zero).ino,(r.1.getD Node.zero).kind,(r.1.getD Node.zero).bE,sS (r.1.getD Node.zero),(r.1.getD Node.zero).av.map ct.name,(r.1.getD Node.zero).data⟩,0)
def uS{all:AM Node}(hall:∀k n,cD all k=some n->n.av.length<=100000):∀(p:List Bytes)(o:Option Node),(∀n,o=some n->n.av.length<=100000)->∀n,(dE all p o).1=some n->n.av.length<=100000
 | [],o,ho,n,h=>ho n h
 |s::r,o,ho,n,h=>by
  rw[dE] at h;split at h
  ·exact ho n h
  ·split at h
   ·exact ho n h
   ·exact uS hall r _ (fun m hm=>hall _ _ hm) n h
def c75(f:aa)(o:dG)(hf:oo f)(ho:p6 o):gP 75 f o (sv f o):=by
 unfold gP;have q1:=fun M=>lS (aln f.s o.n (by have:=hf.taken; omega) (by have:=hf.bq; omega) (fun p hp=>by have:=(hf.ub p hp).1; omega) hf.rt.sz hf.len M)
 have ha:=VM hf o.n;have q2:=Xf o.path (by have:=ho.path; omega)
 have hp:=(pP o.path).2;unfold sv;simp only[];generalize vh f.s o.n=a at q1 ha ⊢;generalize cJ o.path=p at q2 hp ⊢
 have hall:∀k n,cD (cA a.2.1 []) k=some n->n.av.length<=100000:=fun k n h=>by
  rcases wO _ _ _ _ h with h|h
  ·exact ha.2 n h
  ·cases h
 have hpe:=uS hall p.1 (cD (cA a.2.1 []) a.1) (fun n h=>hall _ _ h)
 simp only[aE] at q1;have k134z:∀M,ar (ag cE) 134 [.agg [.int .i64 0,.int .i64 0,.int .i64 0,.slice .sh [],.slice .sh [],.int .i64 0]] M=some (.int .i64 (sS Node.zero),M):=fun M=>Xd Node.zero M
 have k133z:∀M,ar (ag cE) 133 [.slice .sh []] M=some (.slice .sh [],M):=fun M=>Xc [] (by simp) M
 cases h0:a.2.2 != 0
 ·cases h1:p.2 != 0
  ·have hlg:=UX (cD (cA a.2.1 []) a.1);have hisC:(ou (cD (cA a.2.1 []) a.1)).all ae.dp=true:=by cases cD (cA a.2.1 []) a.1<;>rfl
   have hlC:(ou (cD (cA a.2.1 []) a.1)).length=6:=by cases cD (cA a.2.1 []) a.1<;>rfl
   have main:∀x y,(Row x (((dE (cA a.2.1 []) p.1 (cD (cA a.2.1 []) a.1)).1.getD Node.zero).av.map ct.name |>.map ae.str)/\x=bg (((dE (cA a.2.1 []) p.1 (cD (cA a.2.1 []) a.1)).1.getD Node.zero).av.map ct.name)) ->
     (y=match (dE (cA a.2.1 []) p.1 (cD (cA a.2.1 []) a.1)).1 with|some n=>bc n.data|none => .slice .c0 []) ->
     ag cE 75 [.ptr 0 0] [.cells (aK f o)]=some (if ((dE (cA a.2.1 []) p.1 (cD (cA a.2.1 []) a.1)).2 != 0)=true then cp (dE (cA a.2.1 []) p.1 (cD (cA a.2.1 []) a.1)).2 else .tuple [],
      [if ((dE (cA a.2.1 []) p.1 (cD (cA a.2.1 []) a.1)).2 != 0)=true then bf f o ck (.slice .c0 []) (.slice .c0 []) else
       bf f o ⟨0,((dE (cA a.2.1 []) p.1 (cD (cA a.2.1 []) a.1)).1.getD Node.zero).ino,((dE (cA a.2.1 []) p.1 (cD (cA a.2.1 []) a.1)).1.getD Node.zero).kind,((dE (cA a.2.1 []) p.1 (cD (cA a.2.1 []) a.1)).1.getD Node.zero).bE,sS ((dE (cA a.2.1 []) p.1 (cD (cA a.2.1 []) a.1)).1.getD Node.zero),[],[]⟩ x y]):=by
    rintro x y ⟨_,hx⟩ hy;subst hx hy;refine ai ?_
    have hb:=Tt (W:=(f,o)) hall (xs:=p.1) (by omega) (fin:=dE (cA a.2.1 []) p.1 (cD (cA a.2.1 []) a.1)) (k:=[.block 2,.seq ZK]) (r:=some (if ((dE (cA a.2.1 []) p.1 (cD (cA a.2.1 []) a.1)).2 != 0)=true then cp (dE (cA a.2.1 []) p.1 (cD (cA a.2.1 []) a.1)).2 else .tuple [],
      [if ((dE (cA a.2.1 []) p.1 (cD (cA a.2.1 []) a.1)).2 != 0)=true then bf f o ck (.slice .c0 []) (.slice .c0 []) else
       bf f o ⟨0,((dE (cA a.2.1 []) p.1 (cD (cA a.2.1 []) a.1)).1.getD Node.zero).ino,((dE (cA a.2.1 []) p.1 (cD (cA a.2.1 []) a.1)).1.getD Node.zero).kind,((dE (cA a.2.1 []) p.1 (cD (cA a.2.1 []) a.1)).1.getD Node.zero).bE,sS ((dE (cA a.2.1 []) p.1 (cD (cA a.2.1 []) a.1)).1.getD Node.zero),[],[]⟩ (bg (((dE (cA a.2.1 []) p.1 (cD (cA a.2.1 []) a.1)).1.getD Node.zero).av.map ct.name)) (match (dE (cA a.2.1 []) p.1 (cD (cA a.2.1 []) a.1)).1 with|some n=>bc n.data|none => .slice .c0 [])]))
     (fun hz e=>by
      generalize dE (cA a.2.1 []) p.1 (cD (cA a.2.1 []) a.1)=r at hz hpe ⊢;obtain⟨o',e'⟩:=r;simp only at hz;subst hz;cases o' with
      |none =>
       simp only[aL,aK,bf,ou,F9,k133z,k134z,EE,Option.getD_none,bne_self_eq_false,Bool.false_eq_true,if_false,EW,simprocAttr];rfl
      |some n =>
       have q5:=Xc n.av (hpe n rfl);have q6:=Xd n;simp only[an] at q6;simp only[aL,aK,bf,ou,an,q5,q6,EE,Option.getD_some,bne_self_eq_false,Bool.false_eq_true,if_false,EW,simprocAttr])
     (fun hz c d=>by
      rw[if_pos hz,if_pos hz];simp only[aL,aK,bf,ck,EE,cp,EW,simprocAttr]) p.1 [] (cD (cA a.2.1 []) a.1) rfl (fun n h=>hall _ _ h) rfl
    generalize dE (cA a.2.1 []) p.1 (cD (cA a.2.1 []) a.1)=r at hb ⊢
    have hl:=Ts (W:=(f,o)) (at':=a.1) (p:=p.1) (xs:=a.2.1) ha.1 (fin:=cA a.2.1 []) (k:=[.block 0,.seq ZL]) (r:=some (if (r.2 != 0)=true then cp r.2 else .tuple [],[if (r.2 != 0)=true then bf f o ck (.slice .c0 []) (.slice .c0 []) else
       bf f o ⟨0,(r.1.getD Node.zero).ino,(r.1.getD Node.zero).kind,(r.1.getD Node.zero).bE,sS (r.1.getD Node.zero),[],[]⟩ (bg ((r.1.getD Node.zero).av.map ct.name)) (match r.1 with|some n=>bc n.data|none => .slice .c0 [])]))
     (fun e=>by
      generalize cA a.2.1 []=al at hlg hisC hlC hb ⊢;generalize ou (cD al a.1)=gc at hlg hisC hlC hb;simp only[aL,aK,List.length_nil] at hb;simp only[aL,aK,EE,gX,mapOf.eq_1,hlg,hisC,hlC,EW,simprocAttr];exact hb) a.2.1 [] [] rfl rfl
    simp only[aL,aK,List.length_nil,zu,zw] at hl;simp only[Lj,EE,aL,aK,q1,q2,lX,h0,h1,Bool.false_eq_true,if_false,EW,simprocAttr];exact hl
   generalize dE (cA a.2.1 []) p.1 (cD (cA a.2.1 []) a.1)=r at main ⊢;cases h2:r.2 != 0
   ·refine⟨bg ((r.1.getD Node.zero).av.map ct.name),(match r.1 with|some n=>bc n.data|none => .slice .c0 []),.inl rfl,?_,?_⟩
    ·obtain⟨o',e'⟩:=r;cases o'
     ·exact .inr ⟨rfl,rfl⟩
     ·exact .inl rfl
    ·have:=main _ _ ⟨.inl rfl,rfl⟩ rfl;rw[h2] at this;simpa only[Bool.false_eq_true,if_false,bne_self_eq_false,bf] using this
   ·refine⟨.slice .c0 [],.slice .c0 [],.inr ⟨rfl,rfl⟩,.inr ⟨rfl,rfl⟩,?_⟩;have:=main _ _ ⟨.inl rfl,rfl⟩ rfl;rw[h2] at this;simpa only[Bool.false_eq_true,if_true,if_false,h2] using this
  ·refine⟨.slice .c0 [],.slice .c0 [],.inr ⟨rfl,rfl⟩,.inr ⟨rfl,rfl⟩,ai ?_⟩;simp only[Lj,EE,aL,aK,bf,ck,q1,q2,lX,h0,h1,cp,Bool.false_eq_true,if_true,if_false,EW,simprocAttr]
 ·refine⟨.slice .c0 [],.slice .c0 [],.inr ⟨rfl,rfl⟩,.inr ⟨rfl,rfl⟩,ai ?_⟩;simp only[Lj,EE,aL,aK,bf,ck,q1,lX,h0,cp,Bool.false_eq_true,if_true,if_false,EW,simprocAttr]
end
end
section
open Go Go.RowKit Go.Extern.Stop Go.Stop Go.Extern
def Ea (h:Value) (w:World):(Go.method 486 177 (.agg #[h]) "Kind").run Tryz.prog w = .ok (349,h) w:=by kernel_rfl
def D9 (h:Value) (w:World):(Go.method 486 177 (.agg #[h]) "Elem").run Tryz.prog w = .ok (359,.agg #[h]) w:=by kernel_rfl
def tW (h:Value) (w:World):(Go.method 486 177 (.agg #[h]) "Implements").run Tryz.prog w = .ok (360,.agg #[h]) w:=by kernel_rfl
def rl (h:Value) (w:World):(Go.method 486 177 (.agg #[h]) "AssignableTo").run Tryz.prog w = .ok (357,.agg #[h]) w:=by kernel_rfl
def rlm(z:Sem Value)(f:TypeId->Addr->Nat->Nat->Sem Value)(v:Value) :
  ReflectliteValue.method z f #[v]=(do match <-ReflectliteValue.parts v with|none=>z|some (t,a,fl)=>f t a fl (fl % 32)):=rfl
def rls(v x:Value):ReflectliteValue.set #[v,x]=(do
  let (some (dst,a,fl),some (src,b,_)):=(<-ReflectliteValue.parts v,<-ReflectliteValue.parts x)
   |unsupported (.noEntry "extern/(internal/reflectlite.Value).Set.zeroValue")
  if fl / ReflectliteValue.flagAddr % 2==0 then unsupported (.noEntry "extern/(internal/reflectlite.Value).Set.unaddressable")
  let val <-loadVar src b
  if <-Rtype.directlyAssignable dst src then storeVar dst a val
  else if <-Rtype.implements dst src then
   if (<-Rtype.kind src)==20 then
    match val with
    | .nilIface=>unsupported (.noEntry "extern/reflectlite: a nil value of one interface type handed on as a value of another")
    |_=>storeVar dst a val
   else storeVar dst a (.iface src val)
  else panicString ("reflectlite.Set: value of type " ++ (<-Rtype.spelt src) ++ " is not assignable to type " ++ (<-Rtype.spelt dst))
  pure (.tuple #[])):=rfl
def DJ(t:Addr)(w:World):(ReflectliteValue.unpack (.iface 73 (.pointer (some t)))).run Tryz.prog w
  = .ok (.agg #[.pointer (some ⟨2,73,none⟩),.pointer (some ⟨w.heap.size,0,none⟩),.int .u64 150]) (w.alloc (.cells #[.pointer (some t)] 73)):=by kernel_rfl
def Rr (a:Addr) (w:World):(ReflectliteValue.methodAny (ReflectliteValue.valueError "reflectlite.Value.Type" 0) (fun t _ _ _=>ReflectliteType.toType t) #[.agg #[.pointer (some ⟨2,73,none⟩),.pointer (some a),.int .u64 150]]).run Tryz.prog w
  = .ok (.iface 177 (.agg #[.pointer (some ⟨2,73,none⟩)])) w:=by kernel_rfl
def Rp(w:World):((ReflectliteType.abiMethod fun t=>Functor.map (fun a:Nat=>Value.int IntKind.u8 (a:Int)) (Rtype.kind t)) #[.pointer (some ⟨2,73,none⟩)]).run Tryz.prog w = .ok (.int .u8 22) w:=by kernel_rfl
def Rq(w:World):((ReflectliteType.abiMethod fun t=>Functor.map (fun a:Nat=>Value.int IntKind.u8 (a:Int)) (Rtype.kind t)) #[.pointer (some ⟨2,42,none⟩)]).run Tryz.prog w = .ok (.int .u8 2) w:=by kernel_rfl
def A5(a:Addr)(w:World):(ReflectliteValue.parts (.agg #[.pointer (some ⟨2,73,none⟩),.pointer (some a),.int .u64 150])).run Tryz.prog w = .ok (some (73,a,150)) w:=by kernel_rfl
def Jh(a p:Addr)(W:World)(ha:W.cell? a=some (.pointer (some p))) :
  (ReflectliteValue.method (ReflectliteValue.valueError "reflectlite.Value.IsNil" 0) ReflectliteValue.isNil #[.agg #[.pointer (some ⟨2,73,none⟩),.pointer (some a),.int .u64 150]]).run Tryz.prog W = .ok (.bool false) W:=by
 rw[rlm];simp only[Sem.run_bind,A5,Result.andThen];simp[ReflectliteValue.isNil,loadVar,isAgg,underlying,Tryz.underlying73,ha,Result.andThen]
def Ro(w:World):(ReflectliteType.method ReflectliteType.elem #[.agg #[.pointer (some ⟨2,73,none⟩)]]).run Tryz.prog w = .ok (.iface 177 (.agg #[.pointer (some ⟨2,42,none⟩)])) w:=by kernel_rfl
def xA (w:World):(ReflectliteType.relation "Implements" ReflectliteType.implements_ #[.agg #[.pointer (some ⟨2,42,none⟩)],.iface 177 (.agg #[.pointer (some ⟨2,70,none⟩)])]).run Tryz.prog w = .ok (.bool true) w:=by kernel_rfl
def GU(v:Value)(w:World):(ReflectliteType.typeOf #[.iface 42 v]).run Tryz.prog w = .ok (.iface 177 (.agg #[.pointer (some ⟨2,42,none⟩)])) w:=by kernel_rfl
def xz (w:World):(ReflectliteType.relation "AssignableTo" ReflectliteType.assignableTo #[.agg #[.pointer (some ⟨2,42,none⟩)],.iface 177 (.agg #[.pointer (some ⟨2,42,none⟩)])]).run Tryz.prog w = .ok (.bool true) w:=by kernel_rfl
def DK(e:Int)(w:World):(ReflectliteValue.unpack (.iface 42 (.int .i64 e))).run Tryz.prog w
  = .ok (.agg #[.pointer (some ⟨2,42,none⟩),.pointer (some ⟨w.heap.size,0,none⟩),.int .u64 130]) (w.alloc (.cells #[.int .i64 e] 42)):=by kernel_rfl
def GR(w:World):(Rtype.elem? 73).run Tryz.prog w = .ok (some 42) w:=by kernel_rfl
def adk(p:Addr)(w:World):(ReflectliteValue.mk 42 p ReflectliteValue.flagAddr).run Tryz.prog w = .ok (.agg #[.pointer (some ⟨2,42,none⟩),.pointer (some p),.int .u64 386]) w:=by kernel_rfl
def Jg(a p:Addr)(W:World)(ha:W.cell? a=some (.pointer (some p))) :
  (ReflectliteValue.method (ReflectliteValue.valueError "reflectlite.Value.Elem" 0) ReflectliteValue.elem #[.agg #[.pointer (some ⟨2,73,none⟩),.pointer (some a),.int .u64 150]]).run Tryz.prog W
   = .ok (.agg #[.pointer (some ⟨2,42,none⟩),.pointer (some p),.int .u64 386]) W:=by
 rw[rlm];simp only[Sem.run_bind,A5,Result.andThen];simp[ReflectliteValue.elem,loadVar,isAgg,underlying,Tryz.underlying73,ha,Result.andThen,GR,adk]
def GS(a:Addr)(w:World):(ReflectliteValue.parts (.agg #[.pointer (some ⟨2,42,none⟩),.pointer (some a),.int .u64 386])).run Tryz.prog w = .ok (some (42,a,386)) w:=by kernel_rfl
def Ji(a:Addr)(w:World):(ReflectliteValue.parts (.agg #[.pointer (some ⟨2,42,none⟩),.pointer (some a),.int .u64 130])).run Tryz.prog w = .ok (some (42,a,130)) w:=by kernel_rfl
def GQ(w:World):(Rtype.directlyAssignable 42 42).run Tryz.prog w = .ok true w:=by kernel_rfl
def Ws(ta b:Addr)(e:Int)(nA:Value)(W:World)(hb:W.cell? b=some (.int .i64 e))(ht:W.cell? ta=some nA)(hf:W.frozen? ta=false) :
  (ReflectliteValue.set #[.agg #[.pointer (some ⟨2,42,none⟩),.pointer (some ta),.int .u64 386],.agg #[.pointer (some ⟨2,42,none⟩),.pointer (some b),.int .u64 130]]).run Tryz.prog W
   = .ok (.tuple #[]) (W.setCell ta (.int .i64 e)):=by
 have hz:=Tryz.sizeOf42;have hadd:∀a:Addr,a.add 0=a:=fun a=>by simp[Addr.add]
 rw[rls];simp only[Sem.run_bind,GS,Ji,Result.andThen];simp[ReflectliteValue.flagAddr,loadVar,isAgg,underlying,Tryz.underlying42,hb,Result.andThen,GQ,storeVar,Value.cells,storeCells,loadCells,loadCellsFrom,hz,hadd];rw[run_store Tryz.prog W ta _ _ (by rfl)]
 simp[ht,hf]
set_option maxHeartbeats 4000000 in
set_option maxRecDepth 40000 in
def adj(e:Int)(t:Addr)(nA:Value)(w:World)(hg:w.cell? ⟨0,0,none⟩=some (.iface 177 (.agg #[.pointer (some ⟨2,70,none⟩)])))(ht0:w.cell? t=some nA)(hf0:w.frozen? t=false) :
  Calls Tryz.prog 26 #[.iface 42 (.int .i64 e),.iface 73 (.pointer (some t))] w fun ev w'=>ev = .returned (.bool true)/\w'=((((w.alloc (.cells #[.pointer (some t)] 73)).alloc (.cells #[.pointer (some ⟨2,73,none⟩),.pointer (some ⟨w.heap.size,0,none⟩),.int .u64 150] 117)).alloc (.cells #[.pointer (some ⟨2,73,none⟩),.pointer (some ⟨w.heap.size,0,none⟩),.int .u64 150] 117)).alloc (.cells #[.int .i64 e] 42)).setCell t (.int .i64 e):=by
 have h6:=@run_callFunc_extern Tryz.prog 57 _ (fun args=>ReflectliteValue.unpack (args.getD 0 (.tuple #[]))) Tryz.func57 (by kernel_rfl) (by kernel_rfl) (by kernel_rfl) (by kernel_rfl)
 have h7:=@run_callFunc_extern Tryz.prog 58 _ (ReflectliteValue.methodAny (ReflectliteValue.valueError "reflectlite.Value.Type" 0) (fun t _ _ _=>ReflectliteType.toType t)) Tryz.func58 (by kernel_rfl) (by kernel_rfl) (by kernel_rfl) (by kernel_rfl)
 have h8:=@run_callFunc_extern Tryz.prog 59 _ (ReflectliteValue.method (ReflectliteValue.valueError "reflectlite.Value.IsNil" 0) ReflectliteValue.isNil) Tryz.func59 (by kernel_rfl) (by kernel_rfl) (by kernel_rfl) (by kernel_rfl)
 have h27:=@run_callFunc_extern Tryz.prog 349 _ (ReflectliteType.abiMethod fun t=>do pure (.int .u8 (<-Rtype.kind t))) Tryz.func349 (by kernel_rfl) (by kernel_rfl) (by kernel_rfl) (by kernel_rfl)
 have h37:=@run_callFunc_extern Tryz.prog 359 _ (ReflectliteType.method ReflectliteType.elem) Tryz.func359 (by kernel_rfl) (by kernel_rfl) (by kernel_rfl) (by kernel_rfl)
 have h38:=@run_callFunc_extern Tryz.prog 360 _ (ReflectliteType.relation "Implements" ReflectliteType.implements_) Tryz.func360 (by kernel_rfl) (by kernel_rfl) (by kernel_rfl) (by kernel_rfl)
 have h10:=@run_callFunc_extern Tryz.prog 121 _ ReflectliteType.typeOf Tryz.func121 (by kernel_rfl) (by kernel_rfl) (by kernel_rfl) (by kernel_rfl)
 have h35:=@run_callFunc_extern Tryz.prog 357 _ (ReflectliteType.relation "AssignableTo" ReflectliteType.assignableTo) Tryz.func357 (by kernel_rfl) (by kernel_rfl) (by kernel_rfl) (by kernel_rfl)
 have h11:=@run_callFunc_extern Tryz.prog 122 _ (ReflectliteValue.method (ReflectliteValue.valueError "reflectlite.Value.Elem" 0) ReflectliteValue.elem) Tryz.func122 (by kernel_rfl) (by kernel_rfl) (by kernel_rfl) (by kernel_rfl)
 have h12:=@run_callFunc_extern Tryz.prog 123 _ ReflectliteValue.set Tryz.func123 (by kernel_rfl) (by kernel_rfl) (by kernel_rfl) (by kernel_rfl)
 have tO:=GU;have mA:=rl;have a25:=xz;have v25:=DK;have f6:=DJ;have f7:=Rr;have mK:=Ea;have mE:=D9;have mI:=tW;have k27:=Rp;have k25:=Rq;have e27:=Ro;have i25:=xA;have n8:=Jh ⟨w.heap.size,0,none⟩ t ((w.alloc (.cells #[.pointer (some t)] 73)).alloc (.cells #[.pointer (some ⟨2,73,none⟩),.pointer (some ⟨w.heap.size,0,none⟩),.int .u64 150] 117)) (by simp)
 have hlt:0<w.heap.size:=by
  rcases Nat.eq_zero_or_pos w.heap.size with h0|h
  ·simp[World.cell?,h0] at hg
  ·exact h
 have hg2:((w.alloc (.cells #[.pointer (some t)] 73)).alloc (.cells #[.pointer (some ⟨2,73,none⟩),.pointer (some ⟨w.heap.size,0,none⟩),.int .u64 150] 117)).cell? ⟨0,0,none⟩=some (.iface 177 (.agg #[.pointer (some ⟨2,70,none⟩)])):=by
  rw[World.cell?_alloc_lt _ _ ⟨0,0,none⟩ (by simp),World.cell?_alloc_lt _ _ ⟨0,0,none⟩ hlt]; exact hg
 have htl:t.block<w.heap.size:=by
  rcases Nat.lt_or_ge t.block w.heap.size with h|h
  ·exact h
  ·simp[World.cell?,Array.getElem?_eq_none h] at ht0
 have el:=Jg ⟨w.heap.size,0,none⟩ t (((w.alloc (.cells #[.pointer (some t)] 73)).alloc (.cells #[.pointer (some ⟨2,73,none⟩),.pointer (some ⟨w.heap.size,0,none⟩),.int .u64 150] 117)).alloc (.cells #[.pointer (some ⟨2,73,none⟩),.pointer (some ⟨w.heap.size,0,none⟩),.int .u64 150] 117)) (by rw[World.cell?_alloc_lt _ _ ⟨w.heap.size,0,none⟩ (by simp; omega)]; simp)
 have st:=Ws t ⟨w.heap.size+1+1+1,0,none⟩ e nA ((((w.alloc (.cells #[.pointer (some t)] 73)).alloc (.cells #[.pointer (some ⟨2,73,none⟩),.pointer (some ⟨w.heap.size,0,none⟩),.int .u64 150] 117)).alloc (.cells #[.pointer (some ⟨2,73,none⟩),.pointer (some ⟨w.heap.size,0,none⟩),.int .u64 150] 117)).alloc (.cells #[.int .i64 e] 42))
  (by rw[World.cell?_alloc_at _ _ _ _ (by simp)]; rfl)
  (by rw[World.cell?_alloc_lt _ _ t (by simp; omega),World.cell?_alloc_lt _ _ t (by simp; omega),World.cell?_alloc_lt _ _ t (by simp; omega),World.cell?_alloc_lt _ _ t htl]; exact ht0)
  (by rw[World.frozen?_alloc_old _ _ t (by simp; omega),World.frozen?_alloc_old _ _ t (by simp; omega),World.frozen?_alloc_old _ _ t (by simp; omega),World.frozen?_alloc_old _ _ t (Nat.ne_of_lt htl)]; exact hf0)
 go_enter Tryz.func26,Tryz.ntmps26
 go_wp2
 refine wp_loop_rounds 1 ?_;rw[rounds_succ]
 go_wp2
 go_ret
 exact⟨rfl,rfl⟩
end
end Go.Proofs.YtahkjijkflobhaaGreatDoor
set_option linter.defProp false
namespace Go.Proofs.YtahkjijkflobhaaGreatDoor
open Go Go.Abs
def yH:aO :=
 (.seq (.region [
 ob 36 (.mv (.tmp 8)),
 ob 37 (.Rb (.tmp 36)),
 ob 38 (.du 0 (.tmp 37)),
 ob 39 (.eT 10 (.tmp 38)),
 ob 40 (.mv (.tmp 8)),
 ob 41 (.Rb (.tmp 40)),
 ob 42 (.du 18 (.tmp 41)),
 ob 43 (.eT 7 (.tmp 42)),
 ⟨none,.store 10 (.tmp 4) (.tmp 39),none,true,false,[42],true⟩,
 ox (.store 7 (.tmp 5) (.tmp 43))] true [4,5]) (.ret))
def yI:aO :=
 (.seq (.region [
 ob 33 (.mv (.tmp 6)),
 ob 34 (.mv (.tmp 8)),
 ob 35 (.nY (.tmp 33) [(.tmp 34)])] false [4,5,8]) yH)
def yJ:aO :=
 (.seq (.region [
 ob 29 (.eT 10 (.tmp 2)),
 ob 30 (.eT 8 (.tmp 3)),
 ob 31 (.build [(.slice .c0 []),(.int .i64 0),(.int .i64 0),(.int .i64 0),(.slice .c0 []),(.slice .c0 []),(.slice .c0 []),(.int .i64 0),(.slice .c0 []),(.slice .c0 []),(.int .i64 0),(.int .i64 0),(.str []),(.str []),(.int .i64 0),(.int .i64 0),(.int .i64 0),(.slice .c0 []),(.int .i64 0),(.int .i64 0),(.int .i64 0),(.int .i64 0),(.int .i64 0),(.slice .c0 []),(.slice .c0 [])] [(0,10,(.tmp 29)),(10,8,(.tmp 30))]),
 ob 32 (.box (.tmp 31)),
 ob 8 (.mv (.tmp 32))] false [4,5,6,8]) yI)
def yK:aO :=
 (.seq (.region [
 ob 17 (.mv (.tmp 7)),
 ob 18 (.mv (.tmp 17)),
 og 19 18 true (.du 1 (.tmp 3)),
 og 20 18 true (.cY (.tmp 19)),
 og 21 18 true (.bin .geq (.tmp 20) (.ep (.int .i64 0))),
 ob 22 (.pick (.tmp 18) (.tmp 21) (.ep (.bool false))),
 ob 23 (.mv (.tmp 22)),
 og 24 23 true (.du 1 (.tmp 3)),
 og 25 23 true (.cY (.tmp 24)),
 og 26 23 true (.bin .lss (.tmp 25) (.ep (.int .i64 16))),
 ob 27 (.pick (.tmp 23) (.tmp 26) (.ep (.bool false))),
 ob 28 (.call 28 [(.tmp 27),(.ep (.int .i64 1))])] false [2,3,4,5,6]) yJ)
noncomputable def Uv:Code:=match Tryz.f14.body with|some (.seq _ (.seq _ r))=>r|_ => .skip
def IP:xn:={ n:=44,own:=[],lv:=[(2,[2,3,4,5,6,7]),(3,[2,3,4,5,6]),(4,[4,5,6,8]),(5,[4,5,8]),(6,[4,5])],lp:=[] }
def nZ:aO :=
 (.seq (.region [
 ⟨(some 11),.call 27 [],none,true,false,[],false⟩,
 ob 12 (.du 0 (.tmp 3)),
 ob 13 (.cY (.tmp 12)),
 ob 14 (.look .i (.raw .nilFunc) true (.tmp 11) (.tmp 13)),
 ob 10 (.mv (.tmp 14)),
 ob 15 (.extract (.tmp 10) 0),
 ob 16 (.extract (.tmp 10) 1),
 ob 6 (.mv (.tmp 15)),
 ob 7 (.mv (.tmp 16))] true [2,3,4,5,6,7]) yK)
def aft:comp Tryz.prog IP Uv=some nZ:=by kernel_rfl
noncomputable def Uw:Code:=match Tryz.f25.body with|some (.seq _ (.seq _ (.cond _ (.seq _ (.seq _ r)) _)))=>r|_ => .skip
def VK:xn:={ n:=20,own:=[],lv:=[(5,[])],lp:=[] }
def p8:aO :=
 (.region [
 ob 17 (.eT 10 (.tmp 0)),
 ob 18 (.cY (.tmp 5)),
 ob 19 (.build [(.int .i64 0),(.int .i64 0),(.int .i64 0),(.int .i64 0),(.int .i64 0),(.slice .c0 []),(.slice .c0 [])] [(0,1,(.tmp 18))]),
 ox (.store 10 (.tmp 1) (.tmp 17)),
 ox (.store 7 (.tmp 2) (.tmp 19))] false [])
def ag0:comp Tryz.prog VK Uw=some p8:=by kernel_rfl
noncomputable def Uu:Code:=match Tryz.f14.body with|some (.seq r _)=>r|_ => .skip
def VI:xn:={ n:=44,own:=[],lv:=[(0,[2,3,4,5])],lp:=[] }
def ER:aO :=
 (.region [
 ob 2 (.box (.tmp 0)),
 ob 3 (.box (.tmp 1)),
 ob 4 (.iB [(.slice .c0 []),(.int .i64 0),(.int .i64 0),(.int .i64 0),(.slice .c0 []),(.slice .c0 []),(.slice .c0 []),(.int .i64 0),(.slice .c0 []),(.slice .c0 [])]),
 ob 5 (.iB [(.int .i64 0),(.int .i64 0),(.int .i64 0),(.int .i64 0),(.int .i64 0),(.slice .c0 []),(.slice .c0 [])])] false [2,3,4,5])
def afs:comp Tryz.prog VI Uu=some ER:=by kernel_rfl
end Go.Proofs.YtahkjijkflobhaaGreatDoor
namespace Go.Proofs.YtahkjijkflobhaaGreatDoor
open Go Go.Abs
def C9(w:World):(Instr.typeAssert .nilIface 20 70 true).run Tryz.prog w = .ok (.tuple #[.nilIface,.bool false]) w:=by kernel_rfl
def C8(v:Value)(w:World):(Instr.typeAssert (.iface 42 v) 20 70 true).run Tryz.prog w = .ok (.tuple #[.iface 42 v,.bool true]) w:=by kernel_rfl
set_option maxRecDepth 40000 in
def Dk(p q r:Value)(w:World) :
  CallsD Tryz.prog 25 #[p,q,r] .returning w fun e u' w'=>e = .returned (.tuple #[])/\u' = .returning/\w'=w:=by
 refine callsD_of_wpS Tryz.func25 rfl fun c₀ cs hu=>?_
 simp only[Tryz.ntmps25,List.size_toArray,List.length_cons,List.length_nil,Nat.reduceAdd,Nat.reduceSub,Array.replicate_succ,Array.replicate_zero,List.push_toArray,List.append_toArray,List.cons_append,List.nil_append];apply wpS_seq;apply wpS_region;simp[wpOpsS,go_sem,recoverD,hu,Exit.thenS,C9];apply wpS_seq;apply wpS_region;simp[wpOpsS,go_sem,Exit.thenS];refine wpS_cond (t:=false) (by simp[Act.eval]) ?_
 simp only[Bool.false_eq_true,if_false];refine wpS_of_wp (wp_skip ?_);cases c₀;simp_all [bodyPostS,results,Tryz.results25]
def zk(w:World)(o:Obj):(w.alloc o).heap=w.heap.push o:=rfl
def Px{e:Int}{j:J}{M:aj}{w W:World}(hr:Rel j M w)(hsz:w.heap.size<W.heap.size)(hos:W.os=w.os)(ht:W.tape=w.tape)(hou:W.output=w.output)(dw:W.heap[w.heap.size]?=some (.cells #[.int .i64 e] 42 (0,0)))(hb:∀b,b<w.heap.size->W.heap[b]?=w.heap[b]?) :
  Rel (cH j M.length (some w.heap.size)) (M++[.cells [.int .i64 e]]) W/\Ext j M w (cH j M.length (some w.heap.size)) (M++[.cells [.int .i64 e]]) W:=by
 have hob:∀b,some w.heap.size=some b->w.heap.size<=b/\b<W.heap.size:=fun b h=>by injection h with h; omega
 have q:Quiet w W:=⟨by omega,hos,ht,hou⟩
 refine⟨hr.push hob q hb (fun _=>⟨_,rfl,fun j' M' _=>⟨_,_,dw,rfl,fun i c v hc hv=>?_⟩⟩) (fun sz n b h=>by cases h),Ext.push (fun b h=>(hob b h).1) q hb⟩
 match i with
 |0 =>
  simp at hc hv;subst hc; subst hv;exact .plain (.int _ _)
 |i+1=>simp at hc
def Gz{e:Int}{j:J}{M:aj}{w:World}(hr:Rel j M w)(hG:ke j M w){p q r:Value}{xp xq xr:ae}(hp:cC j M w xp p)(hq:cC j M w xq q)(hr':cC j M w xr r){o:Out}
  (ho:bQ (ag cE) p8 [(0,xp),(1,xq),(2,xr),(5,.ptr M.length 0)] (M++[.cells [.int .i64 e]])=some o) (hn:o.e = .normal) :
  CallsD Tryz.prog 25 #[p,q,r] (.panicking [{ v := .iface 42 (.int .i64 e),recovered:=false }]) w fun ed u' w' =>
   ed = .returned (.tuple #[])/\u' = .panicking [{ v := .iface 42 (.int .i64 e),recovered:=true }]/\∃j',Rel j' o.mem w'/\Ext j M w j' o.mem w':=by
 have hg:=(hG.g 0 [A6] 0 A6 rfl rfl).2;have hlt:0<w.heap.size:=(hG.g 0 [A6] 0 A6 rfl rfl).1.lt;refine callsD_of_wpS Tryz.func25 rfl fun c₀ cs hu=>?_
 simp only[Tryz.ntmps25,List.size_toArray,List.length_cons,List.length_nil,Nat.reduceAdd,Nat.reduceSub,Array.replicate_succ,Array.replicate_zero,List.push_toArray,List.append_toArray,List.cons_append,List.nil_append];apply wpS_seq;apply wpS_region;simp[wpOpsS,go_sem,recoverD,hu,Exit.thenS,C8];apply wpS_seq;apply wpS_region;simp[wpOpsS,go_sem,Exit.thenS];refine wpS_cond (t:=true) (by simp[Act.eval]) ?_
 simp only[if_true];refine wpS_of_wp ?_;refine wp_seq (wp_region ?_);simp[wpOps,go_sem,Exit.then]
 refine .inl (wp_seq (wp_seq (wp_region ?_)));simp[wpOps,go_sem,Exit.then]
 repeat' refine Or.inl ?_
 refine(adj e ⟨w.heap.size,0,none⟩ (.int .i64 0) _ ?_ ?_ ?_).mono ?_
 ·rw[World.cell?_alloc_lt _ _ ⟨0,0,none⟩ hlt]; exact hg
 ·simp
 ·simp
 rintro ev w' ⟨rfl,rfl⟩;simp[go_sem];refine .inl (wp_cond (t:=false) ?_ ?_)
 ·simp[Act.eval]
 simp only[Bool.false_eq_true,if_false];refine wp_skip ?_;simp only[Exit.then]
 have hR:=Px (e:=e) hr (W:=((((w.alloc (.cells #[.int .i64 e] 42)).alloc (.cells #[.pointer (some ⟨w.heap.size,0,none⟩)] 73)).alloc (.cells #[.pointer (some ⟨2,73,none⟩),.pointer (some ⟨w.heap.size+1,0,none⟩),.int .u64 150] 117)).alloc (.cells #[.pointer (some ⟨2,73,none⟩),.pointer (some ⟨w.heap.size+1,0,none⟩),.int .u64 150] 117)).alloc (.cells #[.int .i64 e] 42))
  (by simp only[zk,Array.size_push]; omega) rfl rfl rfl (by
   have h2:w.heap.size≠w.heap.size+1+1:=by omega
   have h3:w.heap.size≠w.heap.size+1+1+1:=by omega
   have h4:w.heap.size≠w.heap.size+1+1+1+1:=by omega
   simp only[zk]; simp[Array.getElem?_push,h2,h3,h4]) (fun b hb=>by
   have h1:b≠w.heap.size:=by omega
   have h2:b≠w.heap.size+1:=by omega
   have h3:b≠w.heap.size+1+1:=by omega
   have h4:b≠w.heap.size+1+1+1:=by omega
   have h5:b≠w.heap.size+1+1+1+1:=by omega
   simp only[zk]; simp[Array.getElem?_push,h1,h2,h3,h4,h5])
 have hG':=hG.mono hR.2;have key:=wpIn_wide.1 (fi (rd:=none) (nd:=0) (by kernel_rfl) Es Uw ag0 ho hR.1 hG' (a:={ tmps := #[p,q,r,.iface 42 (.int .i64 e),.bool true,.pointer (some ⟨w.heap.size,0,none⟩),.tuple #[.iface 42 (.int .i64 e),.bool true],.iface 42 (.int .i64 e),.tuple #[.iface 42 (.int .i64 e),.bool true],.iface 42 (.int .i64 e),.bool true,.bool true,.iface 42 (.int .i64 e),.iface 73 (.pointer (some ⟨w.heap.size,0,none⟩)),.bool true,.bool false,undef,undef,undef,undef],defers:=[] }) ?_ rfl)
 ·refine wp_mono key ?_;rintro ex a' w' ⟨h1,h2,h3,j',h4,h5,h6⟩;rw[hn] at h1;simp only[jw] at h1;subst h1;simp[bodyPostS,results,Tryz.results25,h3];exact⟨j',h4,hR.2.trans h6⟩
 ·refine⟨fun t=>?_,hG'⟩
  match t with
  |0=>exact hp.mono hR.2
  |1=>exact hq.mono hR.2
  |2=>exact hr'.mono hR.2
  |5=>exact .ptr (by simp) ⟨_,ft⟩ (by simp[cH])
  |3=>exact .any _
  |4=>exact .any _
  |t+6=>exact .any _
end Go.Proofs.YtahkjijkflobhaaGreatDoor
namespace Go.Abs
open Go
variable [ew]
def Pz{a:Act}{d:Option Nat}{v:Value}{t:Nat}(h:d≠some t):(a.put d v).tmps.getD t undef=a.tmps.getD t undef:=by
 cases d with
 |none=>rfl
 |some s =>
  have hne:s≠t:=fun e=>h (by rw[e])
  simp[Act.put,Array.getD_eq_getD_getElem?,Array.getElem?_setIfInBounds_ne hne]
def LD{F:Fence}{n:Nat}{P:Program}{ops:Array Oper}{Q:Exit->Act->World->Prop}{ks:List Nat}{v0:Nat->Value}:∀(l:List Nat)(a:Act)(w:World),
  (∀i o,i∈l->ops[i]?=some o->∀t,t∈ks->o.dst≠some t)->(∀t,t∈ks->a.tmps.getD t undef=v0 t)->wpOpsIn F n P ops Q l a w->wpOpsIn F n P ops (fun e a' w'=>Q e a' w'/\(e = .outgrown\/∀t,t∈ks->a'.tmps.getD t undef=v0 t)) l a w:=by
 intro l;induction l with
 |nil=>exact fun a w _ hv h=>⟨h,.inr hv⟩
 |cons i rest ih =>
  intro a w hd hv h;have hd':∀i o,i∈rest->ops[i]?=some o->∀t,t∈ks->o.dst≠some t:=fun i o hi=>hd i o (List.mem_cons_of_mem _ hi)
  simp only[wpOpsIn] at h ⊢;cases ho:ops[i]? with
  |none=>rw[ho] at h; exact ih a w hd' hv h
  |some o =>
   rw[ho] at h;have hdo:=hd i o List.mem_cons_self ho;have hp:∀(a:Act) v,(∀t,t∈ks->a.tmps.getD t undef=v0 t)->∀t,t∈ks->(a.put o.dst v).tmps.getD t undef=v0 t:=fun a v h t ht=>(Pz (hdo t ht)).trans (h t ht)
   simp only at h ⊢;split at h
   ·rename_i hw;rw[if_pos hw];refine⟨h.1,?_⟩;have h:=h.2;unfold Oper.uponIn at h ⊢;split at h
    ·exact ih _ _ hd' (hp _ _ hv) h
    ·exact ih _ _ hd' (hp _ _ hv) h
    ·exact ih _ _ hd' (hp _ _ hv) h
    ·refine⟨h.1,h.2.mono fun e w' h=>?_⟩
     cases e with
     |returned v=>exact ih _ _ hd' (hp _ _ hv) h
     |panicked c=>exact⟨h,.inr hv⟩
     |outgrown=>obtain⟨a1,w1,h⟩:=h; exact⟨a1,w1,h,.inl rfl⟩
    ·exact⟨h.1,h.2.mono fun v w' h=>ih _ _ hd' (hp _ _ hv) h⟩
    ·refine⟨h.1,h.2.mono fun e w' h=>?_⟩
     cases e with
     |returned v=>exact ih _ _ hd' (hp _ _ hv) h
     |panicked c=>exact⟨h,.inr hv⟩
     |outgrown=>obtain⟨a1,w1,h⟩:=h; exact⟨a1,w1,h,.inl rfl⟩
    ·exact⟨h,.inr hv⟩
    ·exact h.elim
   ·rename_i hw;rw[if_neg hw];exact⟨h.1,ih _ _ hd' (hp _ _ hv) h.2⟩
def vk(ks:List Nat)(env:Env)(o:Out):Out:=match o.e with
 | .fQ v=>⟨.fQ v,fj env ks,o.mem⟩
 |_=>o
noncomputable def kc(C:bL)(ks:List Nat):aO->Env->aj->Option Out
 | .seq x y,env,M=>aG (kc C ks x env M) fun o=>mG o (kc C ks y)
 | .region ops d live,env,M=>aG (bQ C (.region ops d live) env M) fun o=>some (if d=true then o else vk ks env o)
 |c,env,M=>bQ C c env M
def BC(ks:List Nat):Code->Bool
 | .seq x y=>BC ks x&&BC ks y
 | .region _ ops _=>ops.toList.all fun o=>match o.dst with|some d => !ks.contains d|none=>true
 |_=>true
def CA{P:Program}{C:bL}{A:xn}(hmix:P.follows .mixedOrders=true)(hC:im P C){rd:Option Nat}{nd:Nat}{ks:List Nat}:∀(c:Code){ac:aO},comp P A c=some ac->BC ks c=true->∀ {env:Env} {M:aj} {o:Out},kc C ks ac env M=some o ->
  ∀ {j:J} {w:World} {a:Act},Rel j M w->ke j M w->aN j M w env a->a.tmps.size=A.n->c.wpIn (Wd rd) nd P (QQ A j M w a o) a w:=by
 intro c;induction c with
 |seq x y ihx ihy =>
  intro ac hc hf env M o h j w a hr hG he hs;simp only[comp] at hc;obtain⟨ax,hx,hc⟩:=aw hc;obtain⟨ay,hy,hc⟩:=aw hc;cases hc;simp only[BC,Bool.and_eq_true] at hf;simp only[kc] at h;obtain⟨o1,h1,h⟩:=az h;refine wpIn_seq (wpIn_mono (ihx hx hf.1 h1 hr hG he hs) ?_);rintro e a1 w1 ⟨he1,hs1,hd1,j1,r1,e1,x1⟩;rcases lu h with ⟨hn,h2⟩|⟨hn,h2⟩
  ·rw[hn] at he1;subst he1;refine wpIn_mono (ihy hy hf.2 h2 r1 (hG.mono x1) e1 hs1) ?_;rintro e a2 w2 ⟨he2,hs2,hd2,j2,r2,e2,x2⟩;exact⟨he2,hs2,hd2.trans hd1,j2,r2,e2,x1.trans x2⟩
  ·subst h2;have:jw o.e ≠ .normal:=by cases ho:o.e<;>simp_all [jw]
   subst he1
   cases hx:jw o.e<;>first
    |exact absurd hx this
    |exact⟨hx.symm,hs1,hd1,j1,r1,e1,x1⟩
 |region id ops draw =>
  intro ac hc hf env M o h j w a hr hG he hs;cases draw with
  |true =>
   have hc0:=hc;simp only[comp,if_true] at hc;obtain⟨l0,hl0,hc⟩:=aw hc;obtain⟨l,hl,hc⟩:=aw hc;cases hc;simp only[kc,if_true] at h;obtain⟨o1,h1,h⟩:=az h;cases h;exact fi hmix hC _ hc0 h1 hr hG he hs
  |false =>
   have hc0:=hc;simp only[comp,Bool.false_eq_true,if_false] at hc;obtain⟨l,hl,hc⟩:=aw hc;cases hc;simp only[kc,Bool.false_eq_true,if_false] at h;obtain⟨o1,h1,h⟩:=az h;cases h;simp only[bQ] at h1;obtain⟨x,hx,h1⟩:=az h1;cases h1
   have hdst:∀i o,i∈List.range ops.size->ops[i]?=some o->∀t,t∈ks->o.dst≠some t:=by
    intro i o _ hio t ht hd;simp only[BC,List.all_eq_true] at hf;have:=hf o (Array.mem_toList_iff.2 (Array.mem_of_getElem? hio));rw[hd] at this;simp[ht] at this
   refine wpIn_mono (wpIn_region (LD (v0:=fun t=>a.tmps.getD t undef) _ a w hdst (fun _ _=>rfl) (by
    rw[List.range_eq_range'];exact pK hC (grow:=[]) ops.toList 0 (by simp) hl hx hr hG he hs fun a' w' j' h1 h2 h3 h4 h5=>uc (live:=find A.lv id) h1 h2 h3 h4 h5))) ?_
   rintro e a1 w1 ⟨⟨he1,hs1,hd1,j1,r1,e1,x1⟩,hk⟩;clear hx;generalize x.jc (find A.lv id)=y at he1 r1 e1 x1 ⊢;cases hye:y.e with
   |fQ v =>
    have hp:vk ks env y=⟨.fQ v,fj env ks,y.mem⟩:=by unfold vk; rw[hye]
    rw[hp];have hk':=hk.resolve_left (by rw[he1,hye]; simp[jw])
    refine⟨by rw[he1,hye],hs1,hd1,j1,r1,⟨fun t=>?_,hG.mono x1⟩,x1⟩
    rw[qZ];split
    ·rename_i ht;rw[hk' t ht];exact(he.at' t).mono x1
    ·exact .any _
   |normal =>
    have hp:vk ks env y=y:=by unfold vk; rw[hye]
    rw[hp]; exact⟨he1,hs1,hd1,j1,r1,e1,x1⟩
   |ret =>
    have hp:vk ks env y=y:=by unfold vk; rw[hye]
    rw[hp]; exact⟨he1,hs1,hd1,j1,r1,e1,x1⟩
   |exit i =>
    have hp:vk ks env y=y:=by unfold vk; rw[hye]
    rw[hp]; exact⟨he1,hs1,hd1,j1,r1,e1,x1⟩
 |_ =>
  intro ac hc hf env M o h j w a hr hG he hs;refine fi hmix hC _ hc (o:=o) ?_ hr hG he hs;simp only[comp] at hc
  first
   |(cases hc; exact h)
   |(obtain⟨_,_,hc⟩:=aw hc; cases hc; exact h)
   |(obtain⟨_,_,hc⟩:=aw hc; obtain⟨_,_,hc⟩:=aw hc; obtain⟨_,_,hc⟩:=aw hc; cases hc; exact h)
   |cases hc
end Go.Abs
namespace Go.Proofs.YtahkjijkflobhaaGreatDoor
open Go Go.Abs
def TV:List km:=[.bl 4 10,.bl 5 7]
noncomputable def E0(o1 o2:Out):Option (ae×aj) :=
 match o2.e with
 | .ret=>aG (ki o2.env o2.mem TV) fun l=>some ((Abs.one l).fC 0 o2.mem,fh 0 o2.mem)
 | .fQ (.iface 42 (.int .i64 e)) =>
  aG (bQ (ag cE) p8 [(0,dg o1.env 2),(1,dg o1.env 4),(2,dg o1.env 5),(5,.ptr o2.mem.length 0)] (o2.mem++[.cells [.int .i64 e]])) fun o3 =>
  match o3.e with
  | .normal=>aG (ki o2.env o3.mem TV) fun l=>some ((Abs.one l).fC 0 o3.mem,fh 0 o3.mem)
  |_=>none
 |_=>none
noncomputable def Zj:List ae->aj->Option (ae×aj):=fun args M =>
 match M with
 |_::_=>none
 | []=>if args.length=2 then
   aG (bQ (ag cE) ER (bW 0 args) []) fun o1 =>
   match o1.e with
   | .normal=>aG (kc (ag cE) [4,5] nZ (fj o1.env [2,3,4,5]) o1.mem) fun o2=>E0 o1 o2
   |_=>none
  else none
def Jc{args:List ae}{M:aj}{x:ae×aj}(h:Zj args M=some x):bn Tryz.prog 14 args M x:=by
 unfold Zj at h;split at h
 ·cases h
 split at h
 rotate_left
 ·cases h
 rename_i hlen;obtain⟨o1,ho1,h⟩:=az h;split at h
 rotate_left
 ·cases h
 rename_i hn1;obtain⟨o2,ho2,h⟩:=az h;intro j w vs hr hG hvl hv;refine calls_of_wp_defers Tryz.func14 rfl ?_;refine wp_seq ?_;have hsz:(vs++Array.replicate (Tryz.f14.ntmps-vs.size) undef).size=44:=by rw[Tryz.ntmps14]; simp; omega
 have he:aN j [] w (bW 0 args) { tmps:=vs++Array.replicate (Tryz.f14.ntmps-vs.size) undef,defers:=[] }:=by
  refine⟨fun t=>?_,hG⟩
  rw[tH,if_pos (Nat.zero_le _),Nat.sub_zero];rcases Nat.lt_or_ge t args.length with ht|ht
  ·have h1:=List.getElem?_eq_getElem ht;have hlt:t<vs.size:=by omega
   have h2:=Array.getElem?_eq_getElem hlt;rw[h1];have h3:=hv t _ _ h1 h2
   have:(vs++Array.replicate (Tryz.f14.ntmps-vs.size) undef).getD t undef=vs[t]:=by
    simp[Array.getD_eq_getD_getElem?,Array.getElem?_append_left hlt,h2]
   rw[this];exact h3
  ·rw[List.getElem?_eq_none ht]; exact .any _
 refine wp_mono (wpIn_wide.1 (fi (rd:=none) (nd:=0) (by kernel_rfl) Es Uu afs ho1 hr hG he hsz)) ?_
 rintro ex a1 w1 ⟨h1,h2,h3,j1,r1,e1,x1⟩;rw[hn1] at h1;simp only[jw] at h1;subst h1;simp only[Exit.then]
 refine wp_seq (wp_region ?_);obtain⟨t1,d1⟩:=a1;simp only at h2 h3;subst h3;have hmf:∀(fn:Fn)(first cap:Array Value)(w:World),(Instr.makeFunc fn first cap).run Tryz.prog w = .ok (.func fn first cap) w:=fun _ _ _ _=>rfl
 have h2':t1.size=44:=h2;have h9:9<t1.size:=by omega
 simp[wpOps,go_sem,Exit.then,hmf,h9,Array.getElem?_setIfInBounds,Array.getElem?_setIfInBounds_self]
 repeat' refine Or.inl ?_
 have key:∀d:List Deferred,aN j1 o1.mem w1 (fj o1.env [2,3,4,5]) { tmps:=t1.setIfInBounds 9 (.func (.func 25) #[] #[t1[2]?.getD undef,t1[4]?.getD undef,t1[5]?.getD undef]),defers:=d }:=fun d=>by
  refine⟨fun t=>?_,e1.gl⟩
  rw[qZ];split
  ·rename_i hm;have hne:9≠t:=by rintro rfl; simp at hm
   have:=e1.at' t;simp only[Array.getD_eq_getD_getElem?] at this ⊢;rw[Array.getElem?_setIfInBounds_ne hne];exact this
  ·exact .any _
 refine wp_mono (wpIn_wide.1 (CA (rd:=none) (nd:=0) (by kernel_rfl) Es Uv aft (by kernel_rfl) ho2 r1 e1.gl (key _) (by simpa[IP] using h2'))) ?_
 rintro ex a2 w2 ⟨g1,g2,g3,j2,r2,e2,x2⟩;have hp:=(e1.at' 2).mono x2;have hq:=(e1.at' 4).mono x2;have hs:=(e1.at' 5).mono x2;simp only[Array.getD_eq_getD_getElem?] at hp hq hs;have hb0:0<=o2.mem.length:=Nat.zero_le _
 have fin:∀(j3:J)(M3:aj)(w3:World)(y:ae×aj),Rel j3 M3 w3->aN j3 M3 w3 o2.env a2->Ext j [] w j3 M3 w3->(aG (ki o2.env M3 TV) fun l=>some ((Abs.one l).fC 0 M3,fh 0 M3))=some y ->
   ∃v,(results Tryz.f14 a2.tmps).run Tryz.prog w3 = .ok v w3/\nB j [] w y (.returned v) w3:=by
  intro j3 M3 w3 y r3 e3 x3 hy;obtain⟨l,hl,hy⟩:=az hy;cases hy;obtain⟨us,u1,u2,u3⟩:=vy (P:=Tryz.prog) (rs:=Tryz.f14.results.toList) r3 e3 (by kernel_rfl:AJ Tryz.prog Tryz.f14.results.toList=some TV) hl
  have hres:(results Tryz.f14 a2.tmps).run Tryz.prog w3 = .ok (if h:us.toArray.size=1 then us.toArray[0] else .tuple us.toArray) w3:=by
   unfold results;rw[Array.mapM_eq_mapM_toList,Sem.run_bind,Sem.run_map];refine Eq.trans (congrArg (fun r:Result (List Value)=>Result.andThen (r.andThen fun a w' => .ok a.toArray w') _) (Eq.trans ?_ u1)) rfl
   rfl
  exact⟨_,hres,.inl ⟨_,rfl,j3,rK (Nat.zero_le _) r3,oE (Nat.zero_le _) rfl x3,xP (Nat.zero_le _) r3 (FM u2 u3)⟩⟩
 unfold E0 at h;split at h
 ·rename_i hret;rw[hret] at g1;simp only[jw] at g1;subst g1;simp only[bodyPostD,g3];refine leaves_cons (f:=25) (args := #[t1[2]?.getD undef,t1[4]?.getD undef,t1[5]?.getD undef]) (by simp) (by simp[go_sem]) ?_
  refine(Dk _ _ _ _).mono ?_;rintro ed u' w'' ⟨rfl,rfl,rfl⟩;simp only[Leaves,settle];exact fin _ _ _ _ r2 e2 (x1.trans x2) h
 ·rename_i e hpan;obtain⟨o3,ho3,h⟩:=az h;split at h
  rotate_left
  ·cases h
  rename_i hn3;rw[hpan] at g1;simp only[jw] at g1;subst g1;simp only[bodyPostD,g3];refine leaves_cons (f:=25) (args := #[t1[2]?.getD undef,t1[4]?.getD undef,t1[5]?.getD undef]) (by simp) (by simp[go_sem]) ?_
  refine(Gz r2 e2.gl hp hq hs ho3 hn3).mono ?_;rintro ed u' w'' ⟨rfl,rfl,j3,r3,x3⟩;simp only[Leaves,settle];exact fin _ _ _ _ r3 (e2.mono x3) ((x1.trans x2).trans x3) h
 ·cases h
noncomputable def kM:rD:=gF cE 14 Zj
def TZ:oC Tryz.prog kM:=po F6 (by kernel_rfl) (fun h=>Jc h)
def Qd:im Tryz.prog (ag kM):=ma (by kernel_rfl) TZ
def Qh{f:Nat}{a:List ae}{M:aj}{x:ae×aj}(h:ag cE f a M=some x):ag kM f a M=some x:=pn rfl rfl h
def lD{f:Nat}{vs:List ae}{M:aj}{x:ae×aj}(h:ar (ag cE) f vs M=some x):ar (ag kM) f vs M=some x:=by
 obtain⟨a,B,y,h1,h2⟩:=gS h;exact h2 _ (Qh h1)
section
attribute [local irreducible] bS cz fu gK bG kr ag ar aQ aG
def gL:AM Nat:=[(1,61),(2,62),(3,63),(4,64),(5,65),(6,66),(7,67),(8,68),(9,69),(10,70),(11,71),(12,72),(13,73),(14,74),(15,75),(16,76),(17,77)]
def RB(K:Nat):ae := .raw (.func (.func K) ⟨[]⟩ ⟨[]⟩)
def c27:ag cE 27 [] []=some (.dI (uF gL) (ji RB gL),[]):=by
 refine ai ?_;simp only[WA,E27,tV,fx,Int.reduceBEq,Int.reduceEq,↓reduceIte,bne_self_eq_false,EW,simprocAttr];rfl
end
def il(K:Nat)(f:aa)(o:dG):aa×Ib×Int :=
 if K=61 then oX f o else if K=62 then si f o else if K=63 then se f o else if K=64 then kO f o else if K=65 then kL f o else if K=66 then sf f o else if K=67 then pf f o else if K=68 then sr f o else if K=69 then nH f o else if K=70 then ik f o else if K=71 then nU f o else if K=72 then zp f o else if K=73 then nN f o else if K=74 then sV f o else if K=75 then sv f o else if K=76 then rS f o else if K=77 then oJ f o else (f,ck,0)
def Jd{k:Int}{K:Nat}(hk:cD gL k=some K){f:aa}{o:dG}(hf:oo f)(ho:p6 o):gP K f o (il K f o):=by
 have hm:=sj _ _ _ hk;simp only[gL,List.mem_cons,Prod.mk.injEq,List.not_mem_nil,or_false] at hm;rcases hm with ⟨_,rfl⟩|⟨_,rfl⟩|⟨_,rfl⟩|⟨_,rfl⟩|⟨_,rfl⟩|⟨_,rfl⟩|⟨_,rfl⟩|⟨_,rfl⟩|⟨_,rfl⟩|⟨_,rfl⟩|⟨_,rfl⟩|⟨_,rfl⟩|⟨_,rfl⟩|⟨_,rfl⟩|⟨_,rfl⟩|⟨_,rfl⟩|⟨_,rfl⟩
 ·exact c61 f o hf ho
 ·exact c62 f o hf ho
 ·exact c63 f o hf ho
 ·exact c64 f o hf ho
 ·exact c65 f o hf ho
 ·exact c66 f o hf ho
 ·exact c67 f o hf ho
 ·exact c68 f o hf ho
 ·exact c69 f o hf ho
 ·exact c70 f o hf ho
 ·exact c71 f o hf ho
 ·exact c72 f o hf ho
 ·exact c73 f o hf ho
 ·exact c74 f o hf ho
 ·exact c75 f o hf ho
 ·exact c76 f o hf ho
 ·exact c77 f o hf ho
def o7(c:Bool)(b:Bool)(M:aj)(k:Option Out):uT c ((.bool b),M) k=k:=rfl
def sF(c:Bool)(i:IntKind)(n:Int)(M:aj)(k:Option Out):uT c ((.int i n),M) k=k:=rfl
def sN(c:Bool)(b:Bytes)(M:aj)(k:Option Out):uT c ((.str b),M) k=k:=rfl
def nk(c:Bool)(t:Tk)(l:List ae)(M:aj)(k:Option Out):uT c ((.slice t l),M) k=k:=rfl
def sx(c:Bool)(l:List ae)(M:aj)(k:Option Out):uT c ((.agg l),M) k=k:=rfl
def nn(c:Bool)(l:List ae)(M:aj)(k:Option Out):uT c ((.tuple l),M) k=k:=rfl
def sI(c:Bool)(i n:Nat)(M:aj)(k:Option Out):uT c ((.ptr i n),M) k=k:=rfl
def o8(c:Bool)(a b:List ae)(M:aj)(k:Option Out):uT c ((.dI a b),M) k=k:=rfl
def sJ(c:Bool)(v:Value)(M:aj)(k:Option Out):uT c ((.raw v),M) k=k:=rfl
def sy(c:Bool)  (M:aj)(k:Option Out):uT c (.any,M) k=k:=rfl
def sH(v:Value)(M:aj)(k:Option Out):uT true (.fQ v,M) k=some ⟨.fQ v,[],M⟩:=rfl
def wq(e:Env)(M:aj)(k:Env->aj->Option Out):mG ⟨.normal,e,M⟩ k=k e M:=rfl
def wu(v:Value)(e:Env)(M:aj)(k:Env->aj->Option Out):mG ⟨.fQ v,e,M⟩ k=some ⟨.fQ v,e,M⟩:=rfl
def Ln(e:Env)(M:aj)(k:Env->aj->Option Out):mG ⟨.ret,e,M⟩ k=some ⟨.ret,e,M⟩:=rfl
def LF(live:List Nat)(e:Env)(M:aj):Out.jc live ⟨.ret,e,M⟩=⟨.ret,e,M⟩:=rfl
def Ps(ks:List Nat)(env e:Env)(M:aj):vk ks env ⟨.ret,e,M⟩=⟨.ret,e,M⟩:=rfl
def wF(live:List Nat)(e:Env)(M:aj):Out.jc live ⟨.normal,e,M⟩=⟨.normal,fj e live,M⟩:=rfl
def wG(live:List Nat)(v:Value)(e:Env)(M:aj):Out.jc live ⟨.fQ v,e,M⟩=⟨.fQ v,e,M⟩:=rfl
def wX(ks:List Nat)(env e:Env)(M:aj):vk ks env ⟨.normal,e,M⟩=⟨.normal,e,M⟩:=rfl
def wY(ks:List Nat)(env:Env)(v:Value)(e:Env)(M:aj):vk ks env ⟨.fQ v,e,M⟩=⟨.fQ v,fj env ks,M⟩:=rfl
def AG:(false==true)=false:=rfl
def AH:(true==false)=false:=rfl
def AF:(false==false)=true:=rfl
def AI:(true==true)=true:=rfl
def cI(e:Int):Ib:=⟨e,0,0,0,0,[],[]⟩
def kd(f:aa)(o:dG):aa×Ib :=
 match cD gL o.kind with
 |none=>(f,cI 1)
 |some K=>if 0<=o.aV/\o.aV<16 then (if (il K f o).2.2=0 then ((il K f o).1,(il K f o).2.1) else (f,cI (il K f o).2.2)) else (f,cI 1)
def kj:List ae:=[.slice .c0 [],.int .i64 0,.int .i64 0,.int .i64 0,.slice .c0 [],.slice .c0 [],.slice .c0 [],.int .i64 0,.slice .c0 [],.slice .c0 []]
def iZ:List ae:=[.int .i64 0,.int .i64 0,.int .i64 0,.int .i64 0,.int .i64 0,.slice .c0 [],.slice .c0 []]
def pZ(f:aa)(o:dG):aj:=[.cells (aR f),.cells (bB o),.cells kj,.cells iZ]
def mb:Env:=[(2,.ptr 0 0),(3,.ptr 1 0),(4,.ptr 2 0),(5,.ptr 3 0)]
def uE(a:Ib)(x y:ae):List ae:=[.int .i64 a.err,.int .i64 a.ino,.int .i64 a.kind,.int .i64 a.n,.int .i64 a.m,x,y]
section
attribute [local irreducible] ag ar aQ aG
def ZQ(f:aa)(o:dG):bQ (ag cE) ER (bW 0 [.agg (aR f),.agg (bB o)]) []=some ⟨.normal,mb,pZ f o⟩:=by
 simp only[ER,aR,bB,pZ,mb,kj,iZ,bQ,cm,mG,oj,uT,EV,simprocAttr];rfl
def k27(M:aj):ar (ag cE) 27 [] M=some (.dI (uF gL) (ji RB gL),M):=cO c27 M
def P1(f:aa)(o:dG)(e:Int):bQ (ag cE) p8 [(0,.ptr 0 0),(1,.ptr 2 0),(2,.ptr 3 0),(5,.ptr 4 0)] (pZ f o++[.cells [.int .i64 e]]) =
  some ⟨.normal,[],.cells (aR f) :: .cells (bB o) :: .cells (aR f) :: .cells (uE (cI e) (.slice .c0 []) (.slice .c0 []))::[.cells [.int .i64 e]]⟩:=by
 simp only[p8,aR,bB,pZ,kj,iZ,uE,cI,bQ,cm,mG,oj,uT,EV,simprocAttr];rfl
def ZV(f:aa)(o:dG)(b:aM)(e:Int):bQ (ag cE) p8 [(0,.ptr 0 0),(1,.ptr 2 0),(2,.ptr 3 0),(5,.ptr 5 0)] (pZ f o++[b]++[.cells [.int .i64 e]]) =
  some ⟨.normal,[],.cells (aR f) :: .cells (bB o) :: .cells (aR f) :: .cells (uE (cI e) (.slice .c0 []) (.slice .c0 []))::[b,.cells [.int .i64 e]]⟩:=by
 simp only[p8,aR,bB,pZ,kj,iZ,uE,cI,bQ,cm,mG,oj,uT,EV,simprocAttr];rfl
def ZT(f:aa)(o:dG)(h:cD gL o.kind=none):kc (ag cE) [4,5] nZ (fj mb [2,3,4,5]) (pZ f o)=some ⟨.fQ (.iface 42 (.int .i64 1)),[(4,.ptr 2 0),(5,.ptr 3 0)],pZ f o⟩:=by
 have g:=gX RB gL o.kind;rw[h] at g;have q:=fun M=>Ii false 1 rfl M
 simp only[Bool.false_eq_true,if_false,cp] at q;have q0:=k27;simp only[nZ,yH,yI,yJ,yK,aR,bB,pZ,mb,kc,bQ,cm,o7,sF,sN,nk,sx,nn,sI,o8,sJ,sy,sH,wq,wu,wF,wG,wX,wY,AG,AH,AF,AI,Bool.false_eq_true,if_true,if_false,mapOf.eq_2,jk,q0,g,q,Option.map_none,Option.getD_none,Option.isSome_none,EV,simprocAttr]
def ZR(f:aa)(o:dG)(K:Nat)(h:cD gL o.kind=some K)(hc:¬(0<=o.aV/\o.aV<16)):kc (ag cE) [4,5] nZ (fj mb [2,3,4,5]) (pZ f o)=some ⟨.fQ (.iface 42 (.int .i64 1)),[(4,.ptr 2 0),(5,.ptr 3 0)],pZ f o⟩:=by
 have g:=gX RB gL o.kind;rw[h] at g;have q:=fun M=>Ii false 1 rfl M
 simp only[Bool.false_eq_true,if_false,cp] at q;have q0:=k27
 by_cases h1:0<=o.aV
 ·have h2:(o.aV<16)=False:=Zh;have h1:(0<=o.aV)=True:=by simp only[eq_iff_iff,iff_true]; exact h1
  simp only[nZ,yH,yI,yJ,yK,aR,bB,pZ,mb,kc,bQ,cm,o7,sF,sN,nk,sx,nn,sI,o8,sJ,sy,sH,wq,wu,wF,wG,wX,wY,AG,AH,AF,AI,Bool.false_eq_true,if_true,if_false,mapOf.eq_2,jk,q0,g,q,Option.getD_some,Option.isSome_some,RB,h1,h2,EV,simprocAttr]
 ·have h1:(0<=o.aV)=False:=by simp only[eq_iff_iff,iff_false]; exact h1
  simp only[nZ,yH,yI,yJ,yK,aR,bB,pZ,mb,kc,bQ,cm,o7,sF,sN,nk,sx,nn,sI,o8,sJ,sy,sH,wq,wu,wF,wG,wX,wY,AG,AH,AF,AI,Bool.false_eq_true,if_true,if_false,mapOf.eq_2,jk,q0,g,q,Option.getD_some,Option.isSome_some,RB,h1,EV,simprocAttr]
def ZU(f:aa)(o:dG)(K:Nat)(r:aa×Ib×Int)(h:cD gL o.kind=some K)(hc0:0<=o.aV)(hc1:o.aV<16)(hd:gP K f o r) :
  ∃x y,Row x (r.2.1.names.map ae.str)/\Row y (r.2.1.data.map hZ)/\kc (ag cE) [4,5] nZ (fj mb [2,3,4,5]) (pZ f o) =
   some (if (r.2.2 != 0)=true then ⟨.fQ (.iface 42 (.int .i64 r.2.2)),[(4,.ptr 2 0),(5,.ptr 3 0)],pZ f o++[bf r.1 o r.2.1 x y]⟩
    else ⟨.ret,[(4,.ptr 2 0),(5,.ptr 3 0)],[.cells (aR f),.cells (bB o),.cells (aR r.1),.cells (uE r.2.1 x y),bf r.1 o r.2.1 x y]⟩):=by
 obtain⟨x,y,hx,hy,ha⟩:=hd;refine⟨x,y,hx,hy,?_⟩;have cx:x.dp=true:=by rcases hx with h|⟨h,_⟩<;>rw[h]<;>rfl
 have cy:y.dp=true:=by rcases hy with h|⟨h,_⟩<;>rw[h]<;>rfl
 have g:=gX RB gL o.kind;rw[h] at g;have q:=fun M=>Ii true 1 rfl M
 simp only[if_true] at q;have q0:=k27;have h1:(0<=o.aV)=True:=by simp only[eq_iff_iff,iff_true]; exact hc0
 have h2:(o.aV<16)=True:=by simp only[eq_iff_iff,iff_true]; exact hc1
 have q5:ar (ag cE) K [.ptr 4 0] (pZ f o++[.cells (aK f o)])=some (if (r.2.2 != 0)=true then cp r.2.2 else .tuple [],pZ f o++[bf r.1 o r.2.1 x y]):=by
  obtain⟨f',a,e⟩:=r;simp only at hx hy ha ⊢;unfold bf at ha ⊢;rcases hx with rfl|⟨rfl,_⟩<;>rcases hy with rfl|⟨rfl,_⟩<;>exact gj (vs:=[]) (p:=4) rfl ha rfl rfl (by split<;>rfl) rfl (by split<;>rfl) rfl rfl rfl rfl rfl
 obtain⟨f',a,e⟩:=r;simp only at q5 ⊢;simp only[pZ,aR,bB,aK,bf,kj,iZ,List.cons_append,List.nil_append,cp] at q5 ⊢;cases he:e != 0<;>simp only[he,Bool.false_eq_true,if_true,if_false] at q5 ⊢
 ·simp only[kj,iZ,Ln,LF,Ps,nZ,yH,yI,yJ,yK,aR,bB,pZ,mb,kc,bQ,cm,o7,sF,sN,nk,sx,nn,sI,o8,sJ,sy,sH,wq,wu,wF,wG,wX,wY,AG,AH,AF,AI,Bool.false_eq_true,if_true,if_false,mapOf.eq_2,jk,q0,g,q,Option.getD_some,Option.isSome_some,RB,h1,h2,q5,uE,cx,cy,Bool.true_and,EV,simprocAttr]
 ·simp only[kj,iZ,Ln,LF,Ps,nZ,yH,yI,yJ,yK,aR,bB,pZ,mb,kc,bQ,cm,o7,sF,sN,nk,sx,nn,sI,o8,sJ,sy,sH,wq,wu,wF,wG,wX,wY,AG,AH,AF,AI,Bool.false_eq_true,if_true,if_false,mapOf.eq_2,jk,q0,g,q,Option.getD_some,Option.isSome_some,RB,h1,h2,q5,EV,simprocAttr]
end
def GP(f:aa)(o:dG)(e:Int){R:aj}{M3:aj}(h:bQ (ag cE) p8 [(0,.ptr 0 0),(1,.ptr 2 0),(2,.ptr 3 0),(5,.ptr (pZ f o++R).length 0)] (pZ f o++R++[.cells [.int .i64 e]])=some ⟨.normal,[],.cells (aR f) :: .cells (bB o) :: .cells (aR f) :: .cells (uE (cI e) (.slice .c0 []) (.slice .c0 []))::M3⟩) :
  E0 ⟨.normal,mb,pZ f o⟩ ⟨.fQ (.iface 42 (.int .i64 e)),[(4,.ptr 2 0),(5,.ptr 3 0)],pZ f o++R⟩=some (.tuple [.agg (aR f),.agg (bj (cI e))],[]):=by
 show aG (bQ (ag cE) p8 [(0,.ptr 0 0),(1,.ptr 2 0),(2,.ptr 3 0),(5,.ptr (pZ f o++R).length 0)] (pZ f o++R++[.cells [.int .i64 e]])) _=_
 rw[h,aI];rfl
def Pr(f:aa)(o:dG):Zj [.agg (aR f),.agg (bB o)] []=aG (kc (ag cE) [4,5] nZ (fj mb [2,3,4,5]) (pZ f o)) fun o2=>E0 ⟨.normal,mb,pZ f o⟩ o2:=by
 unfold Zj;simp only[];have h2:[ae.agg (aR f),ae.agg (bB o)].length=2:=rfl;rw[if_pos h2,ZQ,aI]
def c14(f:aa)(o:dG)(hf:oo f)(ho:p6 o):ag kM 14 [.agg (aR f),.agg (bB o)] []=some (.tuple [.agg (aR (kd f o).1),.agg (bj (kd f o).2)],[]):=by
 have bad:∀e,kd f o=(f,cI e)->∀R M3,kc (ag cE) [4,5] nZ (fj mb [2,3,4,5]) (pZ f o)=some ⟨.fQ (.iface 42 (.int .i64 e)),[(4,.ptr 2 0),(5,.ptr 3 0)],pZ f o++R⟩ ->
   bQ (ag cE) p8 [(0,.ptr 0 0),(1,.ptr 2 0),(2,.ptr 3 0),(5,.ptr (pZ f o++R).length 0)] (pZ f o++R++[.cells [.int .i64 e]])=some ⟨.normal,[],.cells (aR f) :: .cells (bB o) :: .cells (aR f) :: .cells (uE (cI e) (.slice .c0 []) (.slice .c0 []))::M3⟩ ->
   ag kM 14 [.agg (aR f),.agg (bB o)] []=some (.tuple [.agg (aR (kd f o).1),.agg (bj (kd f o).2)],[]):=by
  intro e he R M3 h1 h2;rw[he];refine bR (g:=Zj) rfl ?_;rw[Pr,h1,aI];exact GP f o e h2
 cases hk:cD gL o.kind with
 |none =>
  refine bad 1 (by unfold kd; rw[hk]) [] [.cells [.int .i64 1]] ?_ ?_
  ·rw[ZT f o hk,List.append_nil]
  ·rw[List.append_nil]; exact P1 f o 1
 |some K =>
  by_cases hc:0<=o.aV/\o.aV<16
  ·obtain⟨x,y,hx,hy,hs⟩:=ZU f o K (il K f o) hk hc.1 hc.2 (Jd hk hf ho)
   by_cases he:(il K f o).2.2=0
   ·have hd:kd f o=((il K f o).1,(il K f o).2.1):=by unfold kd; rw[hk]; simp only[if_pos hc,if_pos he]
    rw[hd];refine bR (g:=Zj) rfl ?_;rw[Pr,hs,if_neg (by simp[he]),aI]
    generalize il K f o=r at hx hy ⊢;obtain⟨f',⟨a1,a2,a3,a4,a5,ns,dt⟩,e⟩:=r;simp only at hx hy;rcases hx with rfl|⟨rfl,hn⟩<;>rcases hy with rfl|⟨rfl,hm⟩
    ·rfl
    ·rw[List.map_eq_nil_iff] at hm; subst hm; rfl
    ·rw[List.map_eq_nil_iff] at hn; subst hn; rfl
    ·rw[List.map_eq_nil_iff] at hn hm; subst hn; subst hm; rfl
   ·refine bad (il K f o).2.2 (by unfold kd; rw[hk]; simp only[if_pos hc,if_neg he]) [bf (il K f o).1 o (il K f o).2.1 x y] _ ?_ (ZV f o _ _)
    rw[hs,if_pos (by simpa using he)]
  ·refine bad 1 (by unfold kd; rw[hk]; simp only[if_neg hc]) [] [.cells [.int .i64 1]] ?_ ?_
   ·rw[ZR f o K hk hc,List.append_nil]
   ·rw[List.append_nil]; exact P1 f o 1
def Wd(nodes:List Node)(i:Int):Nat:=(aD nodes i).data.length
def oc(m:AM Bool):List Int:=m.map Prod.fst
structure Seen(nodes:List Node)(m:AM Bool):Prop where
 nd:(oc m).Nodup
 tr:∀p,p∈m->p.2=true
 inn:∀k,k∈oc m->(find nodes k).isSome=true
def B8:∀(m:AM Bool)(k:Int)(v:Bool),k∉oc m->gJ m k v=m++[(k,v)]
 | [],k,v,_=>rfl
 |(a,w)::m,k,v,h=>by
  simp only[oc,List.map_cons,List.mem_cons,not_or] at h;rw[gJ,if_neg h.1,B8 m k v h.2]; rfl
def Seen.put{nodes:List Node}{m:AM Bool}(h:Seen nodes m){k:Int}(hk:k∉oc m)(hf:(find nodes k).isSome=true):Seen nodes (gJ m k true)/\oc (gJ m k true)=oc m++[k]:=by
 rw[B8 m k true hk];have e:oc (m++[(k,true)])=oc m++[k]:=by simp[oc]
 refine⟨⟨?_,fun p hp=>?_,fun x hx=>?_⟩,e⟩
 ·rw[e];refine List.nodup_append.2 ⟨h.nd,by simp,fun a ha b hb=>?_⟩
  rw[List.mem_singleton.1 hb];rintro rfl; exact hk ha
 ·rcases List.mem_append.1 hp with hp|hp
  ·exact h.tr p hp
  ·rw[List.mem_singleton.1 hp]
 ·rw[e] at hx;rcases List.mem_append.1 hx with hx|hx
  ·exact h.inn x hx
  ·rw[List.mem_singleton.1 hx]; exact hf
def Seen.len{t:Tree}{dep:Int->Nat}(h:bK t dep 0){m:AM Bool}(hs:Seen t.nodes m):(oc m).length<=200:=by
 have:=B9 (oc m) (t.nodes.map Node.ino) hs.nd (fun x hx=>by
  obtain⟨n,hn⟩:=Option.isSome_iff_exists.1 (hs.inn x hx);exact List.mem_map.2 ⟨n,(bh hn).1,(bh hn).2⟩)
 have h2:=h.nodes;simp at this; omega
abbrev C0(n:Node):Prop:=n.av.length<=64/\n.data.length<=4096
structure FB(k:Nat)(f:aa):Prop where
 ok:oo f
 past:f.s.bq.length<=k
def FB.mono{k m:Nat}{f:aa}(h:FB k f)(hm:k<=m):FB m f:=⟨h.ok,Nat.le_trans h.past hm⟩
def Rt.Qx{t:Tree}(h:Rt t){n:Node}(hn:n∈t.nodes):C0 n:=by
 obtain⟨dep,h⟩:=h;have hi:find t.nodes n.ino=some n:=(fG h.fN.hV).2 ⟨hn,rfl⟩;refine⟨(h.pV _ _ hi).2,?_⟩;rcases h.kind _ _ hi with h1|h1
 ·exact(h.file _ _ hi h1).2.2
 ·rw[h.dir _ _ hi h1]; simp
def yE(t:Tree)(tk:List eX)(c:Int):∀(l:List Node)(y:List Int),(jM t tk c l y).length<=l.length/\∀p,p∈jM t tk c l y->p.node∈l
 | [],y=>⟨by simp[jM],fun p h=>by simp[jM] at h⟩
 |n::r,[]=>⟨by simp[jM],fun p h=>by simp[jM] at h⟩
 |n::r,x::y=>by
  obtain⟨h1,h2⟩:=yE t tk c r y;rw[jM];refine⟨?_,fun p hp=>?_⟩
  ·rw[List.length_append,List.length_cons];split<;>simp<;>omega
  ·rcases List.mem_append.1 hp with hp|hp
   ·split at hp
    ·rw[List.mem_singleton.1 hp]; exact List.mem_cons_self
    ·cases hp
   ·exact List.mem_cons_of_mem _ (h2 p hp)
def FB.put{k:Nat}{f:aa}(h:FB k f)(hk:k<=89000){t:Tree}(ht:Rt t){H:List bI}(hH:ko H)(hl:H.length<=64){Q:List ba}(hQ:iH Q)(hq:Q.length<=16):FB (k+200) ⟨mj f.s t,H,Q⟩:=by
 have hf:=h.ok;have hp:=h.past;unfold mj;split
 ·exact⟨⟨hf.rt,hf.len,hf.bq,hf.ub,hf.taken,hH,hl,hQ,hq⟩,by simp only; omega⟩
 ·obtain⟨h1,h2⟩:=yE t f.s.taken (fO (f.s.tick+1)) f.s.now.nodes f.s.since;have h3:=hf.rt.sz.nodes;have h4:(f.s.bq++jM t f.s.taken (fO (f.s.tick+1)) f.s.now.nodes f.s.since).length<=k+200:=by rw[List.length_append]; omega
  refine⟨⟨ht,by simp,by simp only; omega,fun p hp=>?_,hf.taken,hH,hl,hQ,hq⟩,h4⟩
  rcases List.mem_append.1 hp with hp|hp
  ·exact hf.ub p hp
  ·exact hf.rt.Qx (h2 p hp)
def FB.settle{k:Nat}{f:aa}(h:FB k f)(hk:k<=89000){t:Tree}(ht:Rt t){Q:List ba}(hQ:iH Q)(hq:Q.length<=16):FB (k+200) (dv f t Q).1:=by
 unfold dv;split
 ·exact h.mono (by omega)
 split
 ·exact h.mono (by omega)
 ·exact h.put hk (tF _ _ _ ht) h.ok.holds h.ok.hlen (yq hQ) (Nat.le_trans (tQ _ _) hq)
def Cc{t:Tree}{l:List bI}(hl:ko l)(hn:l.length<=64)(c g ino:Int):ko (lH t l c g ino).1/\(lH t l c g ino).1.length<=64:=by
 have hlow:=wM hl c g;unfold lH;split
 ·exact⟨hl,hn⟩
 split
 ·exact⟨hl,hn⟩
 split
 ·exact⟨hl,hn⟩
 split
 ·exact⟨hl,hn⟩
 split
 ·exact⟨hl,hn⟩
 ·rename_i hi hlen;simp only[decide_eq_true_eq] at hlen
  have hat:∀(i:Nat)(y:bI),l[i]?=some y->decide (cM y c g<0)=false->oQ ⟨c,g,ino⟩ y:=by
   intro i y hy hge;have h1:=hlow.le
   by_cases he:i=fm (fun x=>decide (cM x c g<0)) l
   ·subst he;have hne:¬(y.aV=c/\y.handle=g):=fun hh=>hi (by unfold j4; rw[hy]; simpa using(wy y c g).2 hh)
    have hlt:=jH y c g;simp only[decide_eq_false_iff_not,hlt] at hge;unfold oQ; simp only;omega
   ·have hlt:=jH y c g;simp only[decide_eq_false_iff_not,hlt] at hge
    have hgt:fm (fun x=>decide (cM x c g<0)) l<i:=by
     rcases Nat.lt_or_ge (fm (fun x=>decide (cM x c g<0)) l) i with h|h
     ·exact h
     ·exact absurd ((hlow.lt i y hy).2 (by omega)) (by simp only[decide_eq_true_eq,hlt]; exact hge)
    have hi':=(List.getElem?_eq_some_iff.1 hy).1;have hz:l[fm (fun x=>decide (cM x c g<0)) l]?=some l[fm (fun x=>decide (cM x c g<0)) l]:=List.getElem?_eq_getElem (by omega)
    have hp:oQ l[fm (fun x=>decide (cM x c g<0)) l] y:=by
     have:=(List.pairwise_iff_getElem.1 hl) _ i (by omega) hi' hgt
     rw[<-(List.getElem?_eq_some_iff.1 hy).2]; exact this
    generalize l[fm (fun x=>decide (cM x c g<0)) l]=z at hz hp
    have hzl:¬cM z c g<0:=fun h=>by
     have:=(hlow.lt _ z hz).1 (by simpa using h)
     omega
    rw[jH] at hzl;unfold oQ at hp ⊢; simp only;omega
  refine⟨Fp hl hlow (fun y hy h=>?_) (fun y hy h=>?_) (fun a b d h1 h2=>?_),by simp; have:=hlow.le; omega⟩
  ·simp only[decide_eq_true_eq,jH] at h; unfold oQ; simp only; omega
  ·obtain⟨i,hy'⟩:=List.getElem?_of_mem hy;exact hat i y hy' h
  ·unfold oQ at *; omega
def vV{t:Tree}{l:List bI}(hl:ko l)(c g:Int):ko (eo t l c g).2.1:=by
 unfold eo;split
 ·exact hl
 ·exact hl.sublist List.eraseP_sublist
def tI(c:Int):∀(r l:List bI)(t:Tree),ko l->l.length<=64->ko (iu c r t l).2/\(iu c r t l).2.length<=64
 | [],l,t,h1,h2=>⟨h1,h2⟩
 |x::r,l,t,h1,h2=>by
  rw[iu];split
  ·exact tI c r _ _ (vV h1 _ _) (Nat.le_trans (qV _ _ _ _) h2)
  ·exact tI c r l t h1 h2
def FB.set{k:Nat}{f:aa}(h:FB k f){H:List bI}(hH:ko H)(hl:H.length<=64):FB (k+200) ⟨f.s,H,f.bt⟩ :=
 ⟨⟨h.ok.rt,h.ok.len,h.ok.bq,h.ok.ub,h.ok.taken,hH,hl,h.ok.bt,h.ok.jN⟩,by have:=h.past; simp only; omega⟩
def FB.UT{k:Nat}{f:aa}(h:FB k f)(hk:k<=89000)(o:dG)(ino:Int)(d:Bytes):FB (k+200) (iT f o ino d).1:=by
 have hr:=h.settle hk (h.ok.rt.put ino d) h.ok.bt h.ok.jN;unfold iT;simp only[];split
 ·exact h.mono (by omega)
 split<;>exact hr
def j6{α:Type}{P:α->Prop}{c:Prop}[Decidable c]{a b:α}(ha:P a)(hb:P b):P (if c then a else b):=by
 split
 ·exact ha
 ·exact hb
def Uc{P:Wk->Prop}{f:aa}{o:dG}(h55:P (oX f o))(h56:P (si f o))(h57:P (se f o))(h58:P (kO f o))(h59:P (kL f o))(h60:P (sf f o))(h61:P (pf f o))(h62:P (sr f o))(h63:P (nH f o))(h64:P (ik f o))(h65:P (nU f o))(h66:P (zp f o))(h67:P (nN f o))(h68:P (sV f o))(h69:P (sv f o))(h70:P (rS f o))(h71:P (oJ f o))(h0:P (f,ck,0))(K:Nat):P (il K f o) :=
 j6 h55 (j6 h56 (j6 h57 (j6 h58 (j6 h59 (j6 h60 (j6 h61 (j6 h62 (j6 h63 (j6 h64 (j6 h65 (j6 h66 (j6 h67 (j6 h68 (j6 h69 (j6 h70 (j6 h71 (h0)))))))))))))))))
def Qr{k:Nat}{f:aa}(h:FB k f)(hk:k<=89000)(K:Nat)(o:dG):FB (k+200) (il K f o).1:=by
 have h0:FB (k+200) f:=h.mono (by omega)
 have hp {t:Tree} (ht:Rt t):=h.settle hk ht h.ok.bt h.ok.jN;refine Uc (P:=fun r=>FB (k+200) r.1) ?_ ?_ ?_ ?_ ?_ ?_ ?_ ?_ ?_ ?_ ?_ ?_ ?_ ?_ ?_ ?_ ?_ ?_ K
 ·unfold oX; split<;>exact h0
 ·have hr:=hp (h.ok.rt.add (dL f.s.now o.path).1 (dL f.s.now o.path).2.1 o.n);unfold si; simp only[];split
  ·exact h0
  split
  ·exact h0
  split<;>exact hr
 ·have hr:=hp (h.ok.rt.ln (aD f.s.now.nodes (dX f.s.now o.path).1).ino (dL f.s.now o.lU).1 (dL f.s.now o.lU).2.1);unfold se; simp only[];split
  ·exact h0
  split
  ·exact h0
  split
  ·exact h0
  split<;>exact hr
 ·have hr:=hp (h.ok.rt.un (dL f.s.now o.path).1 (dL f.s.now o.path).2.1);unfold kO; simp only[];split
  ·exact h0
  split
  ·exact h0
  split<;>exact hr
 ·have hr:=hp (h.ok.rt.mv (dL f.s.now o.path).1 (dL f.s.now o.path).2.1 (dL f.s.now o.lU).1 (dL f.s.now o.lU).2.1);unfold kL; simp only[];split
  ·exact h0
  split
  ·exact h0
  split
  ·exact h0
  split
  ·exact h0
  split<;>exact hr
 ·unfold sf; simp only[];split
  ·exact h0
  split<;>exact h0
 ·unfold pf; simp only[]; split<;>exact h0
 ·obtain⟨g1,g2⟩:=Cc (t:=f.s.now) h.ok.holds h.ok.hlen o.aV o.handle (aD f.s.now.nodes (dX f.s.now o.path).1).ino;unfold sr; simp only[];split
  ·exact h0
  split
  ·exact h0
  ·exact h.set g1 g2
 ·have hr:=h.put hk (h.ok.rt.close f.holds o.aV o.handle) (vV (t:=f.s.now) h.ok.holds o.aV o.handle) (Nat.le_trans (qV _ _ _ _) h.ok.hlen) h.ok.bt h.ok.jN;unfold nH; simp only[];split
  ·exact h0
  ·exact hr
 ·unfold ik;split
  ·exact h0
  split<;>exact h0
 ·unfold nU;split
  ·exact h0
  split
  ·exact h0
  split
  ·exact h0
  ·exact h.UT hk o _ _
 ·unfold zp;split
  ·exact h0
  ·exact h.UT hk o _ _
 ·obtain⟨g1,g2⟩:=yL (t:=f.s.now) h.ok.bt h.ok.jN (aD f.s.now.nodes (dX f.s.now o.path).1).ino o.n o.m;have hr:=h.settle hk h.ok.rt g1 g2;unfold nN; simp only[];split
  ·exact h0
  split
  ·exact h0
  split<;>exact hr
 ·unfold sV; simp only[];split
  ·exact h0
  split
  ·exact h0
  ·rename_i hh;unfold takeN at hh ⊢;split
   ·exact h0
   split
   ·exact h0
   split
   ·exact h0
   ·rename_i hlen;refine⟨⟨h.ok.rt,h.ok.len,h.ok.bq,h.ok.ub,?_,h.ok.holds,h.ok.hlen,h.ok.bt,h.ok.jN⟩,by have:=h.past; simp only; omega⟩
    simp only[Bool.or_eq_true,decide_eq_true_eq,not_or] at hlen;simp; omega
 ·unfold sv; simp only[];split
  ·exact h0
  split
  ·exact h0
  split<;>exact h0
 ·unfold rS; simp only[];split
  ·exact h0
  ·unfold p9;split
   ·exact h0
   ·refine⟨⟨h.ok.rt,h.ok.len,Nat.le_trans (List.length_filter_le _ _) h.ok.bq,fun p hp=>h.ok.ub p (List.mem_filter.1 hp).1,Nat.le_trans (List.length_filter_le _ _) h.ok.taken,h.ok.holds,h.ok.hlen,h.ok.bt,h.ok.jN⟩,?_⟩
    have:=h.past;have h2:=List.length_filter_le (sQ (f.s.taken.filter (ni o.n))) f.s.bq;simp only; omega
 ·obtain⟨g1,g2⟩:=tI o.aV f.holds f.holds f.s.now h.ok.holds h.ok.hlen;exact h.put hk (h.ok.rt.gone o.aV f.holds f.holds) g1 g2 h.ok.bt h.ok.jN
 ·exact h0
def mC{k:Nat}{f:aa}(h:FB k f)(hk:k<=89000)(o:dG):FB (k+200) (kd f o).1:=by
 unfold kd;split
 ·exact h.mono (by omega)
 ·split
  ·split
   ·exact Qr h hk _ o
   ·exact h.mono (by omega)
  ·exact h.mono (by omega)
def t0:Tree:=⟨[⟨1,2,0,[],[],1⟩],2,1⟩
def f0:aa:=⟨⟨t0,0,[0],[],[],1⟩,[],[]⟩
section
attribute [local irreducible] bS cz fu gK bG kr ag ar aQ aG
def c38:ag aH 38 [] []=some (.agg (ak t0),[]):=by
 refine ai ?_;simp only[WI,E38,EW,simprocAttr];rfl
def k38:=cP c38
def k37(M:aj):ar (ag aH) 37 [.agg [au t0.nodes,.int .i64 t0.next,.int .i64 t0.af]] M=some (.agg (aE f0.s),M):=cO (c37 t0 (by decide)) M
def c20:ag aH 20 [] []=some (.agg (aR f0),[]):=by
 refine ai ?_;have q:=k38;simp only[ak] at q;simp only[Wy,E20,q,k37,aE,EW,simprocAttr];rfl
def k20:=cP c20
end
def rt0:Rt t0:=⟨_,OX⟩
def fb0:FB 0 f0:=by
 refine⟨⟨rt0,rfl,?_,?_,?_,List.Pairwise.nil,?_,List.Pairwise.nil,?_⟩,?_⟩<;>simp[f0]
end Go.Proofs.YtahkjijkflobhaaGreatDoor
namespace Go.Abs
open Go
def mD{C:bL}{fn:List km}{base:Nat}{k:List K}{live:List Nat}{body:aO}{α σ ρ:Type}{xs:List α}(hn:xs.length<=1000000)(go:List α->σ->ρ)(E:σ->Int->Env)(M:σ->aj)(R:ρ->Option (ae×aj))
  (hend:∀s,bS C fn base (.loop live (M s).length body::k) body (fj (E s xs.length) live) (M s)=R (go [] s))
  (hstep:∀(pre:List α)(x:α)(post:List α)(s:σ),xs=pre++x::post->xs[pre.length]?=some x->((pre.length:Int)<xs.length)=True->IntKind.i64.wrap ((pre.length:Int)+1)=(pre.length:Int)+1->((pre.length:Int)<0)=False->x∈xs ->
   (∀s',bS C fn base k (.loop live body) (E s' ((pre.length:Int)+1)) (M s')=R (go post s'))->bS C fn base (.loop live (M s).length body::k) body (fj (E s pre.length) live) (M s)=R (go (x::post) s)) :
  ∀s,bS C fn base k (.loop live body) (E s 0) (M s)=R (go xs s):=by
 have key:∀(l pre:List α)(s:σ),xs=pre++l->bS C fn base k (.loop live body) (E s pre.length) (M s)=R (go l s):=by
  intro l;induction l with
  |nil =>
   intro pre s h;rw[aC,show pre.length=xs.length by rw[h]; simp]
   exact hend s
  |cons x r ih =>
   intro pre s h;rw[aC];have hl:pre.length+1<=1000000:=by rw[h] at hn; simp at hn; omega
   refine hstep pre x r s h (by rw[h]; simp) (by rw[h]; simp; omega) (cL (by omega) (by omega)) (by simp) (by rw[h]; simp) fun s'=>?_
   have:=ih (pre++[x]) s' (by rw[h]; simp)
   simpa using this
 intro s;exact key xs [] s rfl
def di{C:bL}{fn:List km}{base:Nat}{k:List K}{live:List Nat}{body:aO}{α σ:Type}{xs:List α}(hn:xs.length<=1000000)(I:Nat->σ->Prop)(E:σ->Int->Env)(M:σ->aj)(Q:ae×aj->Prop)
  (hend:∀s,I xs.length s->∃r,Q r/\bS C fn base (.loop live (M s).length body::k) body (fj (E s xs.length) live) (M s)=some r)
  (hstep:∀(pre:List α)(x:α)(post:List α)(s:σ),xs=pre++x::post->xs[pre.length]?=some x->((pre.length:Int)<xs.length)=True->IntKind.i64.wrap ((pre.length:Int)+1)=(pre.length:Int)+1->((pre.length:Int)<0)=False->x∈xs->I pre.length s ->
   (∀s',I (pre.length+1) s'->∃r,Q r/\bS C fn base k (.loop live body) (E s' ((pre.length:Int)+1)) (M s')=some r)->∃r,Q r/\bS C fn base (.loop live (M s).length body::k) body (fj (E s pre.length) live) (M s)=some r) :
  ∀s,I 0 s->∃r,Q r/\bS C fn base k (.loop live body) (E s 0) (M s)=some r:=by
 have key:∀(l pre:List α)(s:σ),xs=pre++l->I pre.length s->∃r,Q r/\bS C fn base k (.loop live body) (E s pre.length) (M s)=some r:=by
  intro l;induction l with
  |nil =>
   intro pre s h hI;have e:pre.length=xs.length:=by rw[h]; simp
   rw[aC,e];exact hend s (by rw[<-e]; exact hI)
  |cons x r ih =>
   intro pre s h hI;rw[aC];have hl:pre.length+1<=1000000:=by rw[h] at hn; simp at hn; omega
   refine hstep pre x r s h (by rw[h]; simp) (by rw[h]; simp; omega) (cL (by omega) (by omega)) (by simp) (by rw[h]; simp) hI fun s' hI'=>?_
   have:=ih (pre++[x]) s' (by rw[h]; simp) (by simpa using hI')
   simpa using this
 intro s hI;exact key xs [] s rfl hI
def yT{α:Type}{a b:List α}{m:Nat}(h:a.take m=b.take m){x:α}(hx:a[m]?=some x)(hy:b[m]?=some x):a.take (m+1)=b.take (m+1):=by
 rw[List.take_add_one,List.take_add_one,h,hx,hy]
def Cx{α:Type}{a b:List α}(hl:a.length=b.length)(h:a.take a.length=b.take a.length):a=b:=by
 rw[List.take_length,hl,List.take_length] at h; exact h
def uh(ds:List Bool)(b:Nat)(d:Bool):dA (ds.map ae.bool) b (putCells (.bool d) 0 [.bool true])=(ds.set b true).map ae.bool:=by
 have:putCells (.bool d) 0 [.bool true] = .bool true:=rfl;rw[this,cG,List.map_set]
def TW(ds:List UInt8)(b:Nat)(d x:UInt8):dA (ds.map hZ) b (putCells (hZ d) 0 [hZ x])=(ds.set b x).map hZ:=by
 have:putCells (hZ d) 0 [hZ x]=hZ x:=rfl;rw[this,cG,List.map_set]
end Go.Abs
namespace Go.Proofs.YtahkjijkflobhaaGreatDoor
open Go Go.Abs
abbrev AZ(l:List dG):ae := .slice .sh (l.map CN)
def GA(n:dG):(CN n).cells=bB n:=rfl
def Oj(n:dG):(bB n).length=8:=rfl
def Ub(l:List dG):wid (l.map CN) 8=True:=kQ CN _ (fun _=>rfl) l
def tkO(n:dG):List.take 8 (bB n)=bB n:=rfl
def shO(n:dG):List.map ae.shut (bB n)=bB n:=rfl
set_option linter.defProp false in
def Af:=And.intro @GA (And.intro @Oj (And.intro @Ub (And.intro @tkO (@shO))))
def qk(o:dG):Bool:=decide (5000<(o.data.length:Int))||(decide (1000<(o.path.length:Int))||decide (1000<(o.lU.length:Int)))
def tJ(l:List dG):Bool:=if decide (50<(l.length:Int))=true then true else l.any qk
def zM{o:dG}(h:qk o=false):p6 o:=by
 simp only[qk,Bool.or_eq_false_iff,decide_eq_false_iff_not] at h;exact⟨by omega,by omega,by omega⟩
def BE{l:List dG}(h:tJ l=false):l.length<=50/\∀o,o∈l->p6 o:=by
 unfold tJ at h;split at h
 ·cases h
 ·rename_i h0;simp only[decide_eq_true_eq] at h0;exact⟨by omega,fun o ho=>zM (by simpa using List.any_eq_false.1 h o ho)⟩
section
attribute [local irreducible] bS cz fu gK bG kr ag ar aQ aG
def c12(o:dG):ag aH 12 [CN o] []=some (.bool (qk o),[]):=by
 refine ai ?_;unfold qk
 cases h1:decide (5000<(o.data.length:Int))<;>cases h2:decide (1000<(o.path.length:Int))<;>cases h3:decide (1000<(o.lU.length:Int)) <;>
  simp only[Wv,E12,CN,bB,h1,h2,h3,Bool.or_true,Bool.true_or,Bool.or_false,Bool.false_or,EW,simprocAttr]
def Qv(o:dG)(M:aj):ar (ag aH) 12 [.agg (bB o)] M=some (.bool (qk o),M):=cO (c12 o) M
def c11(xs:List dG):ag aH 11 [AZ xs] []=some (.bool (tJ xs),[]):=by
 refine ai ?_;unfold tJ;cases h0:decide (50<(xs.length:Int))<;>simp only[Wu,E11,h0,if_true,Bool.false_eq_true,if_false,Af,EW,simprocAttr]
 have hn:xs.length<=50:=by simp at h0; omega
 refine mD (xs:=xs) (by omega) (fun l (_:Unit)=>l.any qk) (fun _ i=>[(0,AZ xs),(3,.int .i64 i)]) (fun _=>[]) (fun b=>some (ae.bool b,([]:aj))) (fun _=>?_) (fun pre x post _ h hx hlt hw h0 hm hi=>?_) ()
 ·simp only[E11,Int.lt_irrefl,List.any_nil,Af,EW,simprocAttr]
 ·have q:=fun M=>Qv x M
  have i1:=hi ();cases hl:qk x<;>rw[hl] at q<;>simp only[E11,hlt,hx,hw,q,hl,List.any_cons,Bool.true_or,Bool.false_or,Af,EW,simprocAttr]
  exact i1
def Qu xs:=cP (c11 xs)
def lE{f:Nat}{vs:List ae}{M:aj}{x:ae×aj}(h:ar (ag aH) f vs M=some x):ar (ag kM) f vs M=some x:=lD (lS h)
def tc(f:aa)(o:dG)(hf:oo f)(ho:p6 o)(M:aj):ar (ag kM) 14 [.agg (aR f),.agg (bB o)] M=some (.tuple [.agg (aR (kd f o).1),.agg (bj (kd f o).2)],M) :=
 cO (c14 f o hf ho) M
end
section
open Go.ChangeShapes Go.WideShapes Go.ChangeAt Go.RowKit Go.Deep
def laidOut:laidOutB Tryz.prog=true:=by kernel_rfl
section
variable {H:Type} {enc:TypeId×Value->H}
def mM{W W':World}(hb:Below W.heap.size W W'):∀ {ts:List TypeId} {vs:List Value} {ds:List (DataW H)} {p:List MemPlace},DataW.TrodAll enc Tryz.prog W 0 (fun _=>true) true ts vs ds p ->
  (∀t,t∈ts->Tryz.prog.readableRec t=true/\t<Tryz.prog.types.size)->(∀x∈p,x.block<W.heap.size)->DataW.TrodAll enc Tryz.prog W' 0 (fun b=>decide (b<W.heap.size)) true ts vs ds p
 | [],vs,ds,p,h,_,_=>by
  obtain⟨rfl,rfl,rfl⟩:=trodAll_nil h;exact trodAll_mk0
 |t::ts,vs,ds,p,h,ht,hp=>by
  obtain⟨v,vs',d,ds',p1,q,rfl,rfl,rfl,h1,h2⟩:=trodAll_cons h
  exact trodAll_cons_mk (Below.trod laidOut (ht t List.mem_cons_self).1 (ht t List.mem_cons_self).2 h1 hb (fun x hx=>hp x (List.mem_append_left _ hx)))
   (mM hb h2 (fun t ht'=>ht t (List.mem_cons_of_mem _ ht')) (fun x hx=>hp x (List.mem_append_right _ hx)))
abbrev xw(w:World):Nat->Nat->Prop:=fY Qt [] w
def P2{w:World}{b off:Nat}(h:b<w.heap.size):xw w b off:=⟨h,fun id hid=>absurd hid (Nat.not_lt_zero _),fun hx=>hx⟩
def fe(b off i:Nat):(⟨b,off,none⟩:Addr).add i=⟨b,off+i,none⟩:=by
 unfold Addr.add;split
 ·rename_i h; rw[h]; rfl
 ·rfl
def sa{w:World}{fuel t:Nat}{v:Value}{x:DataW H×List MemPlace}(ht:Tryz.prog.underlying t=some (.int .i64))(h:DataW.trod enc Tryz.prog w 0 (fun _=>true) true fuel t [v]=some x):∃n:Int,cg w (xw w) (.int .i64 n) v:=by
 obtain⟨n,q,_,_⟩:=DataW.trod_int ht h;cases q;exact⟨n,.int _ _⟩
def Z6{w:World}{fuel t:Nat}{v:Value}{x:DataW H×List MemPlace}(ht:Tryz.prog.underlying t=some (.int .u8))(h:DataW.trod enc Tryz.prog w 0 (fun _=>true) true fuel t [v]=some x):∃b:UInt8,cg w (xw w) (hZ b) v:=by
 obtain⟨n,q,_,wf⟩:=DataW.trod_int ht h;cases q;have h3:IntKind.u8.min<=n/\n<=IntKind.u8.max:=by simpa[Lit.wf] using wf
 have e1:IntKind.u8.min=0:=by decide
 have e2:IntKind.u8.max=255:=by decide
 have e:n=((UInt8.ofNat n.toNat).toNat:Int):=by rw[UInt8.toNat_ofNat']; omega
 refine⟨UInt8.ofNat n.toNat,?_⟩;unfold hZ;rw[<-e];exact .int _ _
def F5{w:World}{fuel t:Nat}{v:Value}{x:DataW H×List MemPlace}(ht:Tryz.prog.underlying t=some .string)(h:DataW.trod enc Tryz.prog w 0 (fun _=>true) true fuel t [v]=some x):∃s:Bytes,cg w (xw w) (.str s) v:=by
 obtain⟨s,q,_,_⟩:=DataW.trod_string ht h;cases q;refine⟨s.data.toList,?_⟩;have:Go.Abs.bs s.data.toList=s:=by apply ByteArray.ext; simp[Go.Abs.bs]
 have h:=cg.str (w:=w) (cV:=xw w) s.data.toList;rw[this] at h;exact h
def uD{α:Type}(P:Nat->α->Prop):∀(n:Nat),(∀i,i<n->∃a,P i a)->∃l:List α,l.length=n/\∀i a,l[i]?=some a->P i a
 |0,_=>⟨[],rfl,fun i a h=>by cases i<;>cases h⟩
 |n+1,h=>by
  obtain⟨l,hl,hp⟩:=uD P n (fun i hi=>h i (by omega))
  obtain⟨a,ha⟩:=h n (by omega)
  refine⟨l++[a],by simp[hl],fun i b hb=>?_⟩
  rcases Nat.lt_or_ge i n with hi|hi
  ·rw[List.getElem?_append_left (by omega)] at hb
   exact hp i b hb
  ·rw[List.getElem?_append_right (by omega)] at hb
   have:i=n:=by
    have:=(List.getElem?_eq_some_iff.1 hb).1;simp at this; omega
   subst this;simp[hl] at hb;subst hb; exact ha
def gv(w:World)(l:List ae)(cs:List Value):Prop:=l.length=cs.length/\∀(k:Nat)(c:ae)(v:Value),l[k]?=some c->cs[k]?=some v->cg w (xw w) c v
def gv.one{w:World}{c:ae}{v:Value}(h:cg w (xw w) c v):gv w [c] [v]:=⟨rfl,fun k c' v' h1 h2=>by
 match k with
 |0=>cases h1; cases h2; exact h
 |k+1=>cases h1⟩
def gv.app{w:World}{a b:List ae}{cs ds:List Value}(h:gv w a cs)(g:gv w b ds):gv w (a++b) (cs++ds):=⟨by simp[h.1,g.1],fun k c v h1 h2=>by
 rcases Nat.lt_or_ge k a.length with hk|hk
 ·rw[List.getElem?_append_left hk] at h1;rw[List.getElem?_append_left (by rw[<-h.1]; exact hk)] at h2
  exact h.2 k c v h1 h2
 ·rw[List.getElem?_append_right hk] at h1;rw[List.getElem?_append_right (by rw[<-h.1]; exact hk),<-h.1] at h2
  exact g.2 _ c v h1 h2⟩
def gv.nil{w:World}:gv w [] []:=⟨rfl,fun k c v h1 _=>by cases h1⟩
def aeH:DataW H->Nat
 | .slice es _=>es.length
 |_=>0
def Cr{α:Type}{w:World}{fuel t e m:Nat}{v:Value}{x:DataW H×List MemPlace}{eC:α->List ae}{mk:α->ae}(ht:Tryz.prog.underlying t=some (.slice e))(hm:Tryz.prog.cellsOf e=m)(hm0:0<m)
  (hmk:∀a,(mk a).cells=eC a) (hlen:∀a,(eC a).length=m)
  (he:∀(n:Nat)(cs:List Value)(y:DataW H×List MemPlace),cs.length=m->DataW.trod enc Tryz.prog w 0 (fun _=>true) true n e cs=some y->∃a,gv w (eC a) cs)
  (h:DataW.trod enc Tryz.prog w 0 (fun _=>true) true fuel t [v]=some x) :
  ∃l:List α,cg w (xw w) (.slice .sh (l.map mk)) v/\l.length=aeH x.1:=by
 rcases open_slice ht h with ⟨hcs,hxx⟩|⟨a,len,cap,mm,n,D,Pl,hcs,_,hl,_,hmm,hxx,hi⟩
 ·cases hcs;exact⟨[],cg.nil _ _ _,by rw[hxx]; rfl⟩
 ·cases hcs;simp only[if_true] at hmm;obtain⟨b,off,spot⟩:=a;rw[hm] at hi
  have each:∀i,i<len->∃s:α,∃cs',w.cells? 0 ((⟨b,off,spot⟩:Addr).add (i*m)) m=some cs'/\cs'.length=m/\gv w (eC s) cs':=by
   intro i hi';obtain⟨cs',hcl,ht⟩:=hi i (by omega)
   have hln:cs'.length=m:=(World.cells?_some hcl).2.1;obtain⟨s,hr⟩:=he _ _ _ hln ht;exact⟨s,cs',hcl,hln,hr⟩
  obtain⟨l,hll,hlp⟩:=uD _ len each;refine⟨l,?_,by rw[hxx]; simp[aeH,hll]⟩
  have hsp:len≠0->spot=none:=fun h0=>by
   obtain⟨s,cs',hcl,h6,_⟩:=each 0 (by omega)
   obtain⟨_,_,hat⟩:=World.cells?_some hcl;have:=hat 0 hm0;have h3:cs'[0]?=some (cs'[0]'(by omega)):=List.getElem?_eq_getElem (by omega)
   rw[h3] at this;simpa[Addr.add] using World.cell?_spot this
  have cell:∀(i:Nat)(s:α)(k:Nat)(c:ae),l[i]?=some s->(eC s)[k]?=some c->∃u,w.cell? ⟨b,off+(i*m+k),none⟩=some u/\cg w (xw w) c u:=fun i s k c hs hk=>by
   obtain⟨cs',hcl,h6,hr⟩:=hlp i s hs;have hil:i<len:=by have:=(List.getElem?_eq_some_iff.1 hs).1; omega
   obtain rfl:=hsp (by omega)
   obtain⟨_,_,hat⟩:=World.cells?_some hcl;have hk6:k<m:=by have:=(List.getElem?_eq_some_iff.1 hk).1; rw[hlen] at this; exact this
   have h1:=hat k hk6;have h3:cs'[k]?=some (cs'[k]'(by omega)):=List.getElem?_eq_getElem (by omega)
   rw[fe,fe,h3] at h1;exact⟨_,by rw[<-Nat.add_assoc]; exact h1,hr.2 k c _ hk h3⟩
  refine .slice _ _ _ _ b off m (fun q=>(w.cell? ⟨b,off+q,none⟩).getD undef) (by simp[hll]) hl (fun hne=>?_) ?_ ?_ ?_
  ·obtain rfl:=hsp (fun h0=>hne (by rw[h0] at hll; rw[List.length_eq_zero_iff.1 hll]; rfl))
   rfl
  ·intro x hx;obtain⟨s,_,rfl⟩:=List.mem_map.1 hx;rw[hmk,hlen]
  ·intro i x k c hx hk;rw[List.getElem?_map] at hx;obtain⟨s,hs,rfl⟩:=Option.map_eq_some_iff.1 hx;rw[hmk] at hk;obtain⟨u,h1,_⟩:=cell i s k c hs hk;refine⟨by rw[h1]; rfl,P2 (ES h1)⟩
  ·intro i x k c hx hk;rw[List.getElem?_map] at hx;obtain⟨s,hs,rfl⟩:=Option.map_eq_some_iff.1 hx;rw[hmk] at hk;obtain⟨u,h1,h2⟩:=cell i s k c hs hk
   show cg w _ c ((w.cell? _).getD undef)
   rw[h1];exact h2
def Gw{w:World}{fuel t e:Nat}{v:Value}{x:DataW H×List MemPlace}(ht:Tryz.prog.underlying t=some (.slice e))(he:Tryz.prog.underlying e=some (.int .u8))(hc:Tryz.prog.cellsOf e=1)(h:DataW.trod enc Tryz.prog w 0 (fun _=>true) true fuel t [v]=some x) :
  ∃d:Bytes,cg w (xw w) (.slice .sh (d.map hZ)) v:=by
 obtain⟨l,h,_⟩:=Cr (eC:=fun b=>[hZ b]) (mk:=hZ) ht hc (by omega) (fun _=>rfl) (fun _=>rfl) (fun n cs y hl hy=>by
  match cs,hl with
  | [c],_ =>
   obtain⟨b,hb⟩:=Z6 he hy;exact⟨b,.one hb⟩) h
 exact⟨l,h⟩
set_option maxRecDepth 100000 in
def H6{w:World}{t:Nat}{fs:Array Field}{r:Reach}{b:Nat}{v:Value}{d:DataW H}{ps:List MemPlace}{P:List Value->Prop}(ht:Tryz.prog.underlying t=some (.struct fs))(h:DataW.Trod enc Tryz.prog w 0 (fun _=>true) true t v d ps)(hv:Value.okWide Tryz.prog w r b t v)
  (K:∀(n:Nat)(cs:List Value)(y:DataW H×List MemPlace),DataW.trod enc Tryz.prog w 0 (fun _=>true) true n t cs=some y->P cs):∃cs:Array Value,v = .agg cs/\P cs.toList:=by
 obtain⟨cs,rfl,_⟩:=okWide_struct ht hv;obtain⟨fuel,hf⟩:=h;have hcs:(Value.agg cs).cells.toList=cs.toList:=rfl;rw[hcs] at hf;exact⟨cs,rfl,K _ _ _ hf⟩
def QS{w:World}{l:List ae}{cs:Array Value}(h:gv w l cs.toList):cC Qt [] w (.agg l) (.agg cs) :=
 .agg (by rw[h.1]; simp) (fun i c v hc hv => .plain (h.2 i c v hc (by simpa using hv)))
def xj{T:rD}(hT:im Tryz.prog (ag T)){f:Nat}{args:List ae}(h:ag T f args []=some (.bool true,[]))(w:World)(hG:ke Qt [] w)(vs:Array Value)(hl:args.length=vs.size)(hv:∀(i:Nat)(c:ae)(v:Value),args[i]?=some c->vs[i]?=some v->cC Qt [] w c v) :
  Calls Tryz.prog f vs w fun e w'=>e = .returned (.bool true)/\Below w.heap.size w w':=by
 refine((hT f args [] _ h).2 Qt w vs (anW w) hG hl hv).mono ?_;intro e w' hce;obtain⟨v,rfl,j',_,hx,hr⟩:=hce.ret rfl;obtain rfl:=hr.dy;exact⟨rfl,hx.os,hx.tape,hx.output,hx.size,fun k hk=>(hx.nA k hk fun i hi=>absurd hi (Nat.not_lt_zero _)).1⟩
def Un{w:World}{n t k:Nat}{cs:List Value}{v:Value}{y:DataW H×List MemPlace}(hc:Tryz.prog.cellsOf t=1)(hk:cs[k]?=some v)(h:DataW.trod enc Tryz.prog w 0 (fun _=>true) true n t ((cs.drop k).take (Tryz.prog.cellsOf t))=some y):DataW.trod enc Tryz.prog w 0 (fun _=>true) true n t [v]=some y:=by
 rw[hc] at h
 have:(cs.drop k).take 1=[v]:=by
  have:=(List.getElem?_eq_some_iff.1 hk);obtain⟨h1,h2⟩:=this;rw[List.drop_eq_getElem_cons h1,h2]; rfl
 rw[this] at h;exact h
def CI:Tryz.prog.underlying 3=some (.int .i64):=by kernel_rfl
def Vh:Tryz.prog.underlying 9=some .string:=by kernel_rfl
def ahF:Tryz.prog.underlying 5=some (.int .u8):=by kernel_rfl
def T5:Tryz.prog.underlying 23=some (.slice 5):=by kernel_rfl
def AL:Tryz.prog.cellsOf 3=1:=by kernel_rfl
def Uq:Tryz.prog.cellsOf 9=1:=by kernel_rfl
def akS:Tryz.prog.cellsOf 5=1:=by kernel_rfl
def Q9:Tryz.prog.cellsOf 23=1:=by kernel_rfl
def amq:Tryz.prog.cellsOf 25=8:=by kernel_rfl
def Vg:Tryz.prog.underlying 22=some (.slice 25):=by kernel_rfl
set_option maxRecDepth 100000 in
def Pj{w:World}{fuel:Nat}{cs:List Value}{x:DataW H×List MemPlace}(h:DataW.trod enc Tryz.prog w 0 (fun _=>true) true fuel 25 cs=some x):∃o:dG,gv w (bB o) cs:=by
 obtain⟨xs,n,_,_,hl,hxl,hf⟩:=DataW.trod_struct Tryz.underlying25 h;have h0:cs.length=8:=by rw[hl]; kernel_rfl
 match cs,h0 with
 | [v0,v1,v2,v3,v4,v5,v6,v7],_ =>
  match xs,hxl with
  | [y0,y1,y2,y3,y4,y5,y6,y7],_ =>
   obtain⟨a0,r0⟩:=sa CI (Un (k:=0) AL rfl (hf 0 _ rfl));obtain⟨a1,r1⟩:=sa CI (Un (k:=1) AL rfl (hf 1 _ rfl));obtain⟨a2,r2⟩:=F5 Vh (Un (k:=2) Uq rfl (hf 2 _ rfl));obtain⟨a3,r3⟩:=F5 Vh (Un (k:=3) Uq rfl (hf 3 _ rfl));obtain⟨a4,r4⟩:=sa CI (Un (k:=4) AL rfl (hf 4 _ rfl));obtain⟨a5,r5⟩:=sa CI (Un (k:=5) AL rfl (hf 5 _ rfl));obtain⟨a6,r6⟩:=sa CI (Un (k:=6) AL rfl (hf 6 _ rfl));obtain⟨a7,r7⟩:=Gw T5 ahF akS (Un (k:=7) Q9 rfl (hf 7 _ rfl));exact⟨⟨a0,a1,a2,a3,a4,a5,a6,a7⟩,.app (.one r0) (.app (.one r1) (.app (.one r2) (.app (.one r3) (.app (.one r4) (.app (.one r5) (.app (.one r6) (.one r7)))))))⟩
set_option maxRecDepth 100000 in
def Pm{w:World}{r:Reach}{b:Nat}{v:Value}{d:DataW H}{ps:List MemPlace}(h:DataW.Trod enc Tryz.prog w 0 (fun _=>true) true 25 v d ps)(hv:Value.okWide Tryz.prog w r b 25 v):∃o:dG,cC Qt [] w (.agg (bB o)) v:=by
 obtain⟨cs,rfl,o,hr⟩:=H6 Tryz.underlying25 h hv (fun n cs y hy=>Pj hy)
 exact⟨o,QS hr⟩
set_option maxRecDepth 100000 in
def FP{w:World}{r:Reach}{b:Nat}{v:Value}{d:DataW H}{ps:List MemPlace}(h:DataW.Trod enc Tryz.prog w 0 (fun _=>true) true 22 v d ps)(hv:Value.okWide Tryz.prog w r b 22 v):∃l:List dG,cC Qt [] w (AZ l) v:=by
 obtain⟨a,len,cap,rfl⟩:=okWide_slice Vg hv;obtain⟨fuel,hf⟩:=h;obtain⟨l,h2,_⟩:=Cr (eC:=bB) (mk:=CN) Vg amq (by omega) (fun _=>rfl) (fun _=>rfl) (fun n cs y _ hy=>Pj hy) hf
 exact⟨l,.plain h2⟩
set_option maxRecDepth 100000 in
def Qj{w:World}{r:Reach}{b:Nat}{v:Value}{d:DataW H}{ps:List MemPlace}(h:DataW.Trod enc Tryz.prog w 0 (fun _=>true) true 5 v d ps)(hv:Value.okWide Tryz.prog w r b 5 v):∃x:UInt8,cC Qt [] w (hZ x) v:=by
 obtain⟨n,rfl,_,_,hw⟩:=open_int ahF hv h;have h3:IntKind.u8.min<=n/\n<=IntKind.u8.max:=by simpa[Lit.wf] using hw
 have e1:IntKind.u8.min=0:=by decide
 have e2:IntKind.u8.max=255:=by decide
 have e:n=((UInt8.ofNat n.toNat).toNat:Int):=by rw[UInt8.toNat_ofNat']; omega
 refine⟨UInt8.ofNat n.toNat,.plain ?_⟩;unfold hZ;rw[<-e];exact .int _ _
end
def Qi{α:Type}{a:Array α}{l:List α}(h:a.toList=l):a=l.toArray:=by rw[<-h]
end
section
attribute [local irreducible] bS cz fu gK bG kr ag ar aQ aG
def Tw(l:List ct)(s:Bytes)(a b:Int):l.map cn++[.agg [.str s,.int .i64 a,.int .i64 b]]=(l++[ct.mk s a b]).map cn:=by simp[cn,bU]
def kI(ino:Int):List Node->Nat->Int
 | [],_ => -1
 |n::r,i=>if n.ino=ino then i else kI ino r (i+1)
def YT{t:Tree}{ino:Int}(ht:t.nodes.length<=100000){k:List K}{R:Int->Option (ae×aj)}
  (hx:∀e,kr (ag aH) [.tmp 4] 0 k ⟨.exit 0,e,[.cells (ak t)]⟩=R (-1)) (hr:∀(i:Nat),kr (ag aH) [.tmp 4] 0 k ⟨.ret,[(4,.int .i64 i)],[.cells (ak t)]⟩=R i) :
  ∀(l pre:List Node),t.nodes=pre++l->bS (ag aH) [.tmp 4] 0 k (.loop [1,2,5] Yx) [(1,.int .i64 ino),(2,.ptr 0 0),(5,.int .i64 pre.length)] [.cells (ak t)]=R (kI ino l pre.length):=by
 intro l;induction l with
 |nil =>
  intro pre h;rw[aC];simp only[VH,ak,au,cQ h,EN,simprocAttr];exact hx _
 |cons n r ih =>
  intro pre h;rw[aC];have hlen:pre.length+1<=100000:=by rw[h] at ht; simp at ht; omega
  have hw:=ny pre n;simp only[VH,ak,au,cv h,bT h,an,EN,simprocAttr];refine aB (fun hb=>?_) (fun hb=>?_)
  ·have hb:n.ino=ino:=by simpa using hb
   simp only[VH,EN,simprocAttr];rw[kI,if_pos hb];exact hr _
  ·have hb:¬n.ino=ino:=by simpa using hb
   simp only[VH,hw,EN,simprocAttr];rw[kI,if_neg hb];have:=ih (pre++[n]) (by rw[h]; simp)
   simp only[List.length_append,List.length_cons,List.length_nil] at this ⊢;exact this
def c34(t:Tree)(ino:Int)(ht:t.nodes.length<=100000):ag aH 34 [aA t,.int .i64 ino] []=some (.int .i64 (kI ino t.nodes 0),[]):=by
 refine ai ?_;simp only[WE,VH,aA,EN,simprocAttr];exact YT (R:=fun z=>some (.int .i64 z,[])) ht (fun e=>by simp only[VH,EN,simprocAttr]) (fun i=>by simp only[VH,EN,simprocAttr]) t.nodes [] rfl
def k34(nodes:List Node)(next af ino:Int)(h:nodes.length<=100000)(M:aj):ar (ag aH) 34 [.agg [au nodes,.int .i64 next,.int .i64 af],.int .i64 ino] M=some (.int .i64 (kI ino nodes 0),M) :=
 cO (c34 ⟨nodes,next,af⟩ ino h) M
def sO(ino:Int):∀(l:List Node)(i:Nat),(find l ino=none/\kI ino l i = -1)\/∃m n,l[m]?=some n/\find l ino=some n/\kI ino l i=((i+m:Nat):Int)
 | [],_ => .inl ⟨rfl,rfl⟩
 |n::r,i=>by
  unfold find kI
  by_cases h:n.ino=ino
  ·exact .inr ⟨0,n,rfl,by simp[h],by simp[h]⟩
  ·rcases sO ino r (i+1) with ⟨h1,h2⟩|⟨m,n',h1,h2,h3⟩
   ·exact .inl ⟨by simp[h]; simpa[find] using h1,by simp[h,h2]⟩
   ·exact .inr ⟨m+1,n',by simpa using h1,by simp[h]; simpa[find] using h2,by simp[h,h3]; omega⟩
def c18(t:Tree)(ino:Int)(ht:t.nodes.length<=100000):ag aH 18 [aA t,.int .i64 ino] []=some (.tuple [aF ((find t.nodes ino).getD Node.zero),.bool (find t.nodes ino).isSome],[]):=by
 refine ai ?_;simp only[Wx,E18,aA,ak,k34,ht,EN,simprocAttr];rcases sO ino t.nodes 0 with ⟨h1,h2⟩|⟨m,n,h1,h2,h3⟩
 ·rw[h2];simp only[E18,h1,EN,simprocAttr];rfl
 ·rw[h3];simp only[E18,h1,h2,au,an,EN,simprocAttr];rfl
def tP(nodes:List Node)(next af ino:Int)(h:nodes.length<=100000)(M:aj):ar (ag aH) 18 [.agg [au nodes,.int .i64 next,.int .i64 af],.int .i64 ino] M=some (.tuple [aF ((find nodes ino).getD Node.zero),.bool (find nodes ino).isSome],M) :=
 cO (c18 ⟨nodes,next,af⟩ ino h) M
def ajN(t:Tree)(ino:Int)(ht:t.nodes.length<=100000):ag aH 179 [aA t,.int .i64 ino] []=some (.tuple [aF (cK t.nodes ino).1,.int .i64 (cK t.nodes ino).2],[]):=by
 refine ai ?_;simp only[Kb,QD,aA,ak,tP,ht,aF,an,EN,simprocAttr];unfold cK;cases hf:find t.nodes ino with
 |none=>simp only[QD,Option.isSome,EN,simprocAttr]; first|done|rfl
 |some n =>
  simp only[QD,Option.isSome,Option.getD_some,EN,simprocAttr]
  repeat' ((first|refine aB (fun hb=>?_) (fun hb=>?_)|refine aJ (fun hb=>?_) (fun hb=>?_)|refine bp (fun hb=>?_) (fun hb=>?_))<;>simp only[hb,EN,QD,simprocAttr])
  all_goals simp_all [Node.zero]
def RM(nodes:List Node)(next af ino:Int)(h:nodes.length<=100000)(M:aj):ar (ag aH) 179 [.agg [au nodes,.int .i64 next,.int .i64 af],.int .i64 ino] M=some (.tuple [aF (cK nodes ino).1,.int .i64 (cK nodes ino).2],M) :=
 cO (ajN ⟨nodes,next,af⟩ ino h) M
def kG(s:Bytes):List ct->Nat->Int
 | [],_ => -1
 |n::r,i=>if n.name=s then i else kG s r (i+1)
def kH(s:Bytes):∀(l:List ct)(i:Nat),(cB l s=none/\kG s l i = -1)\/∃m n,l[m]?=some n/\cB l s=some n/\kG s l i=((i+m:Nat):Int)
 | [],_ => .inl ⟨rfl,rfl⟩
 |n::r,i=>by
  unfold cB kG
  by_cases h:n.name=s
  ·exact .inr ⟨0,n,rfl,by simp[h],by simp[h]⟩
  ·rcases kH s r (i+1) with ⟨h1,h2⟩|⟨m,n',h1,h2,h3⟩
   ·exact .inl ⟨by simp[h]; simpa[cB] using h1,by simp[h,h2]⟩
   ·exact .inr ⟨m+1,n',by simpa using h1,by simp[h]; simpa[cB] using h2,by simp[h,h3]; omega⟩
def SZ{t:Node}{s:Bytes}(ht:t.av.length<=100000){k:List K}{R:Int->Option (ae×aj)}
  (hx:∀e,kr (ag aH) [.tmp 4] 0 k ⟨.exit 0,e,[.cells (an t)]⟩=R (-1)) (hr:∀(i:Nat),kr (ag aH) [.tmp 4] 0 k ⟨.ret,[(4,.int .i64 i)],[.cells (an t)]⟩=R i) :
  ∀(l pre:List ct),t.av=pre++l->bS (ag aH) [.tmp 4] 0 k (.loop [1,2,5] Se) [(1,.str s),(2,.ptr 0 0),(5,.int .i64 pre.length)] [.cells (an t)]=R (kG s l pre.length):=by
 intro l;induction l with
 |nil =>
  intro pre h;rw[aC];simp only[CS,an,cT,cQ h,EN,simprocAttr];exact hx _
 |cons n r ih =>
  intro pre h;rw[aC];have hlen:pre.length+1<=100000:=by rw[h] at ht; simp at ht; omega
  have hw:=ny pre n;simp only[CS,an,cT,cv h,bT h,bU,EN,simprocAttr];refine aB (fun hb=>?_) (fun hb=>?_)
  ·have hb:n.name=s:=by simpa using hb
   simp only[CS,EN,simprocAttr];rw[kG,if_pos hb];exact hr _
  ·have hb:¬n.name=s:=by simpa using hb
   simp only[CS,hw,EN,simprocAttr];rw[kG,if_neg hb];have:=ih (pre++[n]) (by rw[h]; simp)
   simp only[List.length_append,List.length_cons,List.length_nil] at this ⊢;exact this
def ajO(t:Node)(s:Bytes)(ht:t.av.length<=100000):ag aH 180 [aF t,.str s] []=some (.int .i64 (kG s t.av 0),[]):=by
 refine ai ?_;simp only[Kc,CS,aF,EN,simprocAttr];exact SZ (R:=fun z=>some (.int .i64 z,[])) ht (fun e=>by simp only[CS,EN,simprocAttr]) (fun i=>by simp only[CS,EN,simprocAttr]) t.av [] rfl
def Xk(a b c:Int)(d:Bytes)(e:List ct)(u:Int)(s:Bytes)(h:e.length<=100000)(M:aj):ar (ag aH) 180 [.agg [.int .i64 a,.int .i64 b,.int .i64 c,bc d,cT e,.int .i64 u],.str s] M=some (.int .i64 (kG s e 0),M) :=
 cO (ajO ⟨a,b,c,d,e,u⟩ s h) M
def YY{s:Bytes}(hs:s.length<=100000){k:List K}{R:Bool->Option (ae×aj)}
  (hx:∀e,kr (ag aH) [.tmp 2] 0 k ⟨.exit 0,e,[]⟩=R true) (hr:kr (ag aH) [.tmp 2] 0 k ⟨.ret,[(2,.bool false)],[]⟩=R false) :
  ∀(l pre:Bytes),s=pre++l->bS (ag aH) [.tmp 2] 0 k (.loop [0,3] YP) [(0,.str s),(3,.int .i64 pre.length)] []=R (l.all kh):=by
 intro l;induction l with
 |nil =>
  intro pre h;rw[aC];simp only[Uj,cQ h,EN,simprocAttr];exact hx _
 |cons n r ih =>
  intro pre h;rw[aC];have hlen:pre.length+1<=100000:=by rw[h] at hs; simp at hs; omega
  have hw:=ny pre n;have hi:=ih (pre++[n]) (by rw[h]; simp)
  simp only[List.length_append,List.length_cons,List.length_nil] at hi;simp only[Uj,cv h,bT h,EN,simprocAttr]
  repeat' ((first|refine aB (fun hb=>?_) (fun hb=>?_)|refine aJ (fun hb=>?_) (fun hb=>?_)|refine bp (fun hb=>?_) (fun hb=>?_))<;>simp only[hb,EN,Uj,bT h,hw,simprocAttr])
  all_goals try simp only[Uj,EN,simprocAttr]
  all_goals first
   |(refine hr.trans ?_; congr 1; symm; simp_all [kh]; done)
   |(refine hi.trans ?_; congr 1; symm; simp_all [kh]; done)
def c97(s:Bytes)(hs:s.length<=100000):ag aH 97 [.str s] []=some (.bool (cr s),[]):=by
 refine ai ?_;simp only[W8,Uj,EN,simprocAttr];have hl:=fun k hx hr=>YY (k:=k) (R:=fun b=>some (ae.bool b,[])) hs hx hr s [] rfl
 repeat' ((first|refine aB (fun hb=>?_) (fun hb=>?_)|refine aJ (fun hb=>?_) (fun hb=>?_)|refine bp (fun hb=>?_) (fun hb=>?_))<;>simp only[hb,EN,Uj,simprocAttr])
 all_goals first
  |(simp_all [cr]; done)
  |(refine(hl _ (fun e=>by simp only[Uj,EN,simprocAttr]) (by simp only[Uj,EN,simprocAttr])).trans ?_; simp_all [cr]; done)
def k97 s hs:=cP (c97 s hs)
def aiV(t:Tree)(ino:Int)(s:Bytes)(ht:Small t)(hs:s.length<=100000):ag aH 108 [aA t,.int .i64 ino,.str s] []=some (.tuple [.int .i64 (bM t.nodes ino s).1,.int .i64 (bM t.nodes ino s).2],[]):=by
 refine ai ?_;have hd:=kU ht ino;simp only[Jz,CO,aA,ak,RM,ht.nodes,aF,an,EN,simprocAttr];unfold bM;refine aB (fun hb=>?_) (fun hb=>?_)
 ·simp only[CO,EN,simprocAttr];simp_all
 ·simp only[CO,k97,hs,EN,simprocAttr];refine aB (fun hb'=>?_) (fun hb'=>?_)
  ·simp only[CO,EN,simprocAttr];simp_all
  ·simp only[CO,Xk,hd,EN,simprocAttr];rcases kH s (cK t.nodes ino).1.av 0 with ⟨h1,h2⟩|⟨m,n,h1,h2,h3⟩
   ·rw[h2];simp only[CO,EN,simprocAttr];simp_all
   ·rw[h3];simp only[CO,h1,cT,bU,EN,simprocAttr];simp_all
def RG(nodes:List Node)(next af ino:Int)(s:Bytes)(ht:Small ⟨nodes,next,af⟩)(hs:s.length<=100000)(M:aj):ar (ag aH) 108 [.agg [au nodes,.int .i64 next,.int .i64 af],.int .i64 ino,.str s] M =
  some (.tuple [.int .i64 (bM nodes ino s).1,.int .i64 (bM nodes ino s).2],M):=cO (aiV ⟨nodes,next,af⟩ ino s ht hs) M
def SX{t:Tree}{n:Node}(ht:t.nodes.length<=100000){k:List K}{R:List Node->Bool->Option (ae×aj)}
  (hx:∀out done v e,out.length<=300000->kr (ag aH) [.bl 4 3] 0 k ⟨.exit 0,[(2,.ptr 0 0),(3,.ptr 1 0),(4,.ptr 2 0),(5,.slice (.own 3) (out.map aF)),(6,.bool done),(7,v),(12,e)],[.cells (ak t),.cells (an n),.cells zT,.tick 6 out.length]⟩=R out done) :
  ∀(l pre out:List Node)(done:Bool),t.nodes=pre++l->out.length+2*l.length<=300000->bS (ag aH) [.bl 4 3] 0 k (.loop [2,3,4,5,6,7] R9) [(2,.ptr 0 0),(3,.ptr 1 0),(4,.ptr 2 0),(5,.slice (.own 3) (out.map aF)),(6,.bool done),(7,.int .i64 pre.length)] [.cells (ak t),.cells (an n),.cells zT,.tick 6 out.length]=R (gi n l out done).1 (gi n l out done).2:=by
 intro l;induction l with
 |nil =>
  intro pre out done h ho;rw[aC];simp only[CQ,ak,au,cQ h,EN,simprocAttr];exact hx _ _ _ _ (by simp at ho; omega)
 |cons m r ih =>
  intro pre out done h ho;rw[aC];have hlen:pre.length+1<=100000:=by rw[h] at ht; simp at ht; omega
  have hw:=ny pre m;have hi:=fun out done ho=>ih (pre++[m]) out done (by rw[h]; simp) ho
  simp only[List.length_cons] at ho;have r1:aP (out.length+1) 80=True:=jx;have r2:aP (out.length+1+1) 80=True:=jx;rw[gi];simp only[CQ,ak,au,cv h,bT h,an,EN,simprocAttr]
  repeat' ((first|refine aB (fun hb=>?_) (fun hb=>?_)|refine aJ (fun hb=>?_) (fun hb=>?_)|refine bp (fun hb=>?_) (fun hb=>?_))<;>simp only[hb,EN,CQ,bT h,hw,r1,r2,an,simprocAttr])
  all_goals try simp only[CQ,bT h,hw,r1,r2,an,EN,simprocAttr]
  all_goals first
   |(refine Eq.trans ?_ ((hi (out++[n]++[m]) true (by simp; omega)).trans ?_)
     ·simp only[List.map_append,List.map_cons,List.map_nil,List.length_append,List.length_cons,List.length_nil]; rfl
     ·clear hi ih hx hw h; simp_all; done)
   |(refine Eq.trans ?_ ((hi (out++[n]) true (by simp; omega)).trans ?_)
     ·simp only[List.map_append,List.map_cons,List.map_nil,List.length_append,List.length_cons,List.length_nil]; rfl
     ·clear hi ih hx hw h; simp_all; done)
   |(refine Eq.trans ?_ ((hi (out++[m]) done (by simp; omega)).trans ?_)
     ·simp only[List.map_append,List.map_cons,List.map_nil,List.length_append,List.length_cons,List.length_nil]; rfl
     ·clear hi ih hx hw h; simp_all; done)
   |(refine Eq.trans ?_ ((hi out done (by omega)).trans ?_)
     ·simp only[List.map_append,List.map_cons,List.map_nil,List.length_append,List.length_cons,List.length_nil]; rfl
     ·clear hi ih hx hw h; simp_all; done)
def ajJ(t:Tree)(n:Node)(ht:t.nodes.length<=100000):ag aH 175 [aA t,aF n] []=some (aA ⟨bJ t.nodes n,t.next,t.af⟩,[]):=by
 refine ai ?_;simp only[J8,CQ,aA,aF,EN,simprocAttr];refine SX (R:=fun out done=>some (aA ⟨out++(if done=true then [] else [n]),t.next,t.af⟩,[])) ht (fun out done v e ho=>?_) t.nodes [] [] false rfl (by simp; omega)
 have r1:aP (out.length+1) 80=True:=jx;cases done
 ·simp only[CQ,r1,aA,ak,zT,an,EN,simprocAttr];simp[au,aF,an]
 ·simp only[CQ,r1,aA,ak,zT,an,EN,simprocAttr]
  try simp[au]
def zE(nodes:List Node)(next af a b c:Int)(d:Bytes)(e:List ct)(u:Int)(h:nodes.length<=100000)(M:aj):ar (ag aH) 175 [.agg [au nodes,.int .i64 next,.int .i64 af],.agg [.int .i64 a,.int .i64 b,.int .i64 c,bc d,cT e,.int .i64 u]] M =
  some (.agg [au (bJ nodes ⟨a,b,c,d,e,u⟩),.int .i64 next,.int .i64 af],M):=cO (ajJ ⟨nodes,next,af⟩ ⟨a,b,c,d,e,u⟩ h) M
def Tb{t:Tree}{ino:Int}(ht:t.nodes.length<=100000){k:List K}{R:List Node->Option (ae×aj)}
  (hx:∀out v e,out.length<=300000->kr (ag aH) [.bl 4 3] 0 k ⟨.exit 0,[(1,.int .i64 ino),(2,.ptr 0 0),(4,.ptr 1 0),(5,.slice (.own 2) (out.map aF)),(6,v),(11,e)],[.cells (ak t),.cells zT,.tick 6 out.length]⟩=R out) :
  ∀(l pre out:List Node),t.nodes=pre++l->out.length+l.length<=150000->bS (ag aH) [.bl 4 3] 0 k (.loop [1,2,4,5,6] Sx) [(1,.int .i64 ino),(2,.ptr 0 0),(4,.ptr 1 0),(5,.slice (.own 2) (out.map aF)),(6,.int .i64 pre.length)] [.cells (ak t),.cells zT,.tick 6 out.length]=R (out++db l ino):=by
 intro l;induction l with
 |nil =>
  intro pre out h ho;rw[aC];simp only[Iv,ak,au,cQ h,EN,simprocAttr];refine(hx _ _ _ (by simp at ho; omega)).trans (by simp[db])
 |cons m r ih =>
  intro pre out h ho;rw[aC];have hlen:pre.length+1<=100000:=by rw[h] at ht; simp at ht; omega
  have hw:=ny pre m;have hi:=fun out ho=>ih (pre++[m]) out (by rw[h]; simp) ho
  simp only[List.length_cons] at ho;have r1:aP (out.length+1) 80=True:=jx;simp only[Iv,ak,au,cv h,bT h,an,EN,simprocAttr]
  repeat' ((first|refine aB (fun hb=>?_) (fun hb=>?_)|refine aJ (fun hb=>?_) (fun hb=>?_)|refine bp (fun hb=>?_) (fun hb=>?_))<;>simp only[hb,EN,Iv,bT h,hw,r1,an,simprocAttr])
  all_goals first
   |(refine Eq.trans ?_ ((hi (out++[m]) (by simp; omega)).trans ?_)
     ·simp only[List.map_append,List.map_cons,List.map_nil,List.length_append,List.length_cons,List.length_nil]; rfl
     ·clear hi ih hx hw h; simp_all[db]; done)
   |(refine Eq.trans ?_ ((hi out (by omega)).trans ?_)
     ·simp only[List.map_append,List.map_cons,List.map_nil,List.length_append,List.length_cons,List.length_nil]; rfl
     ·clear hi ih hx hw h; simp_all[db]; done)
def akx(t:Tree)(ino:Int)(ht:t.nodes.length<=100000):ag aH 250 [aA t,.int .i64 ino] []=some (aA ⟨db t.nodes ino,t.next,t.af⟩,[]):=by
 refine ai ?_;simp only[KZ,Iv,aA,EN,simprocAttr];refine(Tb (R:=fun out=>some (aA ⟨out,t.next,t.af⟩,[])) ht (fun out v e ho=>?_) t.nodes [] [] rfl (by simp; omega)).trans (by simp[aA])
 simp only[Iv,aA,ak,zT,EN,simprocAttr]
 try simp[au]
def aeq(nodes:List Node)(next af ino:Int)(h:nodes.length<=100000)(M:aj):ar (ag aH) 250 [.agg [au nodes,.int .i64 next,.int .i64 af],.int .i64 ino] M =
  some (.agg [au (db nodes ino),.int .i64 next,.int .i64 af],M):=cO (akx ⟨nodes,next,af⟩ ino h) M
def SY{T:List ae}{n:Node}{s:Bytes}(hn:n.av.length<=100000){k:List K}{R:List ct->Option (ae×aj)}
  (hx:∀out v e,out.length<=300000->kr (ag aH) [.bl 6 3] 0 k ⟨.exit 0,[(2,.str s),(3,.ptr 0 0),(6,.ptr 1 0),(7,.ptr 2 0),(9,.slice (.own 3) (out.map cn)),(10,v),(21,e)],[.cells T,.cells zT,.cells (an n),.tick 3 out.length]⟩=R out)
  (hT:∀B M,T.map (ae.eH B M)=T) :
  ∀(l pre out:List ct),n.av=pre++l->out.length+l.length<=150000->bS (ag aH) [.bl 6 3] 0 k (.loop [2,3,6,7,9,10] Sd) [(2,.str s),(3,.ptr 0 0),(6,.ptr 1 0),(7,.ptr 2 0),(9,.slice (.own 3) (out.map cn)),(10,.int .i64 pre.length)] [.cells T,.cells zT,.cells (an n),.tick 3 out.length]=R (out++dB l s):=by
 intro l;induction l with
 |nil =>
  intro pre out h ho;rw[aC];simp only[CR,an,cT,cQ h,EN,simprocAttr];refine(hx _ _ _ (by simp at ho; omega)).trans (by simp[dB])
 |cons m r ih =>
  intro pre out h ho;rw[aC];have hlen:pre.length+1<=100000:=by rw[h] at hn; simp at hn; omega
  have hw:=ny pre m;have hi:=fun out ho=>ih (pre++[m]) out (by rw[h]; simp) ho
  simp only[List.length_cons] at ho;have r1:aP (out.length+1) 32=True:=jx;simp only[CR,an,cT,cv h,bT h,bU,hT,zT,EN,simprocAttr]
  repeat' ((first|refine aB (fun hb=>?_) (fun hb=>?_)|refine aJ (fun hb=>?_) (fun hb=>?_)|refine bp (fun hb=>?_) (fun hb=>?_))<;>simp only[hb,EN,CR,bT h,hw,r1,bU,hT,zT,simprocAttr])
  all_goals first
   |(refine Eq.trans ?_ ((hi (out++[m]) (by simp; omega)).trans ?_)
     ·simp only[List.map_append,List.map_cons,List.map_nil,List.length_append,List.length_cons,List.length_nil]; rfl
     ·clear hi ih hx hw h hT; simp_all[dB]; done)
   |(refine Eq.trans ?_ ((hi out (by omega)).trans ?_)
     ·simp only[List.map_append,List.map_cons,List.map_nil,List.length_append,List.length_cons,List.length_nil]; rfl
     ·clear hi ih hx hw h hT; simp_all[dB]; done)
def xZ{t:Tree}(hs:Small t)(ino:Int):((find t.nodes ino).getD Node.zero).av.length<=100000:=by
 cases h:find t.nodes ino with
 |none=>simp[Node.zero]
 |some n=>exact hs.av n (bh h).1
def ajM(t:Tree)(ino:Int)(s:Bytes)(ht:Small t):ag aH 178 [aA t,.int .i64 ino,.str s] []=some (aA ⟨bm t.nodes ino s,t.next,t.af⟩,[]):=by
 refine ai ?_;have hd:=xZ ht ino;unfold bm;simp only[Ka,CR,aA,ak,tP,ht.nodes,aF,EN,simprocAttr];generalize (find t.nodes ino).getD Node.zero=n at hd ⊢;simp only[CR,an,EN,simprocAttr];refine(SY (R:=fun out=>some (aA ⟨bJ t.nodes { n with av:=out },t.next,t.af⟩,[])) hd (fun out v e ho=>?_) (fun B M=>by simp only[CR,EN,simprocAttr]) n.av [] [] rfl (by simp; omega)).trans (by simp[aA,ak])
 simp only[CR,zT,an,zE,ht.nodes,EN,simprocAttr];simp[aA,ak]
end
section
attribute [local irreducible] bS cz fu gK bG kr ag ar aQ aG
def UD{X:Option (ae×aj)}{v:ae×aj}(h:∃r,r=v/\X=some r):X=some v:=by
 obtain⟨_,rfl,h⟩:=h;exact h
def ajF(a b:List ct)(ha:a.length<=100000):ag aH 171 [cT a,cT b] []=some (.bool (decide (a=b)),[]):=by
 refine ai ?_;cases h0:(a.length:Int) != (b.length:Int)
 ·have hl:a.length=b.length:=by simp at h0; omega
  simp only[Fg,Ir,h0,EW,simprocAttr];refine UD (di (xs:=a) (by omega) (fun m (_:Unit)=>a.take m=b.take m) (fun _ i=>[(0,cT a),(1,cT b),(5,.int .i64 i)]) (fun _=>[]) (fun r=>r=(.bool (decide (a=b)),[])) (fun _ hI=>?_) (fun pre x post _ e hx hlt hw h0 hm hI hi=>?_) () rfl)
  ·refine⟨_,rfl,?_⟩;rw[decide_eq_true (Cx hl hI)];simp only[Ir,Int.lt_irrefl,EW,simprocAttr]
  ·have hp:=(List.getElem?_eq_some_iff.1 hx).1;obtain⟨y,hy⟩:∃y,b[pre.length]?=some y:=⟨_,List.getElem?_eq_getElem (by omega)⟩
   cases h1:decide (x=y)
   ·have hd:decide (a=b)=false:=decide_eq_false fun e=>of_decide_eq_false h1 (by rw[e,hy] at hx; injection hx with hx; exact hx.symm)
    refine⟨_,rfl,?_⟩;rw[hd];simp only[Ir,hlt,hx,hy,h0,h1,cn,Jf,IL,EW,simprocAttr]
   ·have i1:=hi () (yT hI hx (by rw[hy,of_decide_eq_true h1]))
    simp only[Ir,hlt,hx,hy,hw,h0,h1,cn,Jf,IL,EW,simprocAttr];exact i1
 ·have hd:decide (a=b)=false:=decide_eq_false fun e=>by rw[e] at h0; simp at h0
  rw[hd];simp only[Fg,Ir,h0,EW,simprocAttr]
def alv a b ha:=cP (ajF a b ha)
def c96(x y:Node)(hx:x.av.length<=100000):ag aH 96 [aF x,aF y] []=some (.bool (decide (x=y)),[]):=by
 rw[UZ];have hk:=fun M=>alv x.av y.av hx M
 refine ai ?_;simp only[W7,E96,aF,an,EN,simprocAttr]
 repeat' ((first|refine aB (fun hb=>?_) (fun hb=>?_)|refine aJ (fun hb=>?_) (fun hb=>?_)|refine bp (fun hb=>?_) (fun hb=>?_))<;>simp only[hb,EN,E96,hk,oI,simprocAttr])
 all_goals clear hk
 all_goals simp_all [bne]
def k96(x y:Node)(hx:x.av.length<=100000)(M:aj):ar (ag aH) 96 [.agg (an x),.agg (an y)] M=some (.bool (decide (x=y)),M):=cO (c96 x y hx) M
def ajE(a b:List Node)(ha:a.length<=100000)(he:∀n,n∈a->n.av.length<=100000):ag aH 170 [au a,au b] []=some (.bool (decide (a=b)),[]):=by
 refine ai ?_;cases h0:(a.length:Int) != (b.length:Int)
 ·have hl:a.length=b.length:=by simp at h0; omega
  simp only[Ff,Iq,h0,EW,simprocAttr];refine UD (di (xs:=a) (by omega) (fun m (_:Unit)=>a.take m=b.take m) (fun _ i=>[(0,au a),(1,au b),(5,.int .i64 i)]) (fun _=>[]) (fun r=>r=(.bool (decide (a=b)),[])) (fun _ hI=>?_) (fun pre x post _ e hx hlt hw h0 hm hI hi=>?_) () rfl)
  ·refine⟨_,rfl,?_⟩;rw[decide_eq_true (Cx hl hI)];simp only[Iq,Int.lt_irrefl,EW,simprocAttr]
  ·have hp:=(List.getElem?_eq_some_iff.1 hx).1;obtain⟨y,hy⟩:∃y,b[pre.length]?=some y:=⟨_,List.getElem?_eq_getElem (by omega)⟩
   have q:=fun M=>k96 x y (he x hm) M
   simp only[an] at q;cases h1:decide (x=y)<;>rw[h1] at q
   ·have hd:decide (a=b)=false:=decide_eq_false fun e=>of_decide_eq_false h1 (by rw[e,hy] at hx; injection hx with hx; exact hx.symm)
    refine⟨_,rfl,?_⟩;rw[hd];simp only[Iq,hlt,hx,hy,h0,q,aF,an,EW,simprocAttr]
   ·have i1:=hi () (yT hI hx (by rw[hy,of_decide_eq_true h1]))
    simp only[Iq,hlt,hx,hy,hw,h0,q,aF,an,EW,simprocAttr];exact i1
 ·have hd:decide (a=b)=false:=decide_eq_false fun e=>by rw[e] at h0; simp at h0
  rw[hd];simp only[Ff,Iq,h0,EW,simprocAttr]
def alu a b ha he:=cP (ajE a b ha he)
def c95(a b:Tree)(ha:a.nodes.length<=100000)(he:∀n,n∈a.nodes->n.av.length<=100000):ag aH 95 [aA a,aA b] []=some (.bool (decide (a=b)),[]):=by
 have hd:decide (a=b)=(a.next==b.next&&(a.af==b.af&&decide (a.nodes=b.nodes))):=by
  obtain⟨a1,a2,a3⟩:=a;obtain⟨b1,b2,b3⟩:=b;rw[Bool.eq_iff_iff]; simp; constructor
  ·rintro⟨h1,h2,h3⟩; exact⟨h2,h3,h1⟩
  ·rintro⟨h1,h2,h3⟩; exact⟨h3,h1,h2⟩
 rw[hd];have q:=fun M=>alu a.nodes b.nodes ha he M
 refine ai ?_
 cases h1:a.next==b.next<;>cases h2:a.af==b.af <;>
  simp only[W6,E95,h1,h2,q,aA,ak,Bool.true_and,Bool.false_and,Bool.and_false,EW,simprocAttr]
def k95(a b:Tree)(ha:a.nodes.length<=100000)(he:∀n,n∈a.nodes->n.av.length<=100000)(M:aj):ar (ag aH) 95 [.agg [au a.nodes,.int .i64 a.next,.int .i64 a.af],.agg [au b.nodes,.int .i64 b.next,.int .i64 b.af]] M=some (.bool (decide (a=b)),M):=cO (c95 a b ha he) M
end
section
attribute [local irreducible] bS cz fu gK bG kr ag ar aQ aG
def ai4(l:List eX)(a b:Int)(hn:l.length<=100000):ag aH 120 [eN l,.int .i64 a,.int .i64 b] []=some (.bool (sP l a b),[]):=by
 refine ai ?_;simp only[JD,Vl,EW,simprocAttr];refine mD (xs:=l) (by omega) (fun post (_:Unit)=>post.any (mL a b)) (fun _ i=>[(0,eN l),(1,.int .i64 a),(2,.int .i64 b),(7,.int .i64 i)]) (fun _=>[]) (fun z=>some (ae.bool z,([]:aj))) (fun _=>?_) (fun pre x post _ e hx hlt hw h0 hm hi=>?_) ()
 ·simp only[Vl,Int.lt_irrefl,List.any_nil,EW,simprocAttr]
 ·have i1:=hi ();rw[List.any_cons,mL]
  cases h1:decide (a<=x.at')<;>cases h2:decide (x.at'<b) <;>
   simp only[Vl,hlt,hx,hw,h0,h1,h2,eA,cS,Bool.and_false,Bool.true_and,Bool.false_and,Bool.true_or,Bool.false_or,EW,simprocAttr]<;>exact i1
def adY l a b hn:=cP (ai4 l a b hn)
abbrev Ct(s:c8)(t:Tree):aj:=[.cells (aE s),.cells [au t.nodes,.int .i64 t.next,.int .i64 t.af],.cells [.slice .c0 [],.int .i64 0,.int .i64 0,.int .i64 0,.slice .c0 [],.slice .c0 [],.slice .c0 [],.int .i64 0]]
abbrev Cs(c:Int):Env:=[(2,.ptr 0 0),(3,.ptr 1 0),(4,.ptr 2 0),(5,.int .i64 c)]
section
variable {s:c8} {t:Tree} {Q:ae×aj->Prop} {c:Int}
def Tp(hs:Rt s.now)(ht:Rt t)(hl:s.since.length=s.now.nodes.length)(hk:s.taken.length<=16)(hp:s.bq.length<=90000){k:List K}
  (hx:∀(P:List iy) z,P.length<=s.bq.length+s.now.nodes.length->(∀p,p∈P->p∈s.bq\/p.node∈s.now.nodes)->∃r,Q r/\kr (ag aH) [.bl 4 8] 0 k ⟨.exit 0,Cs c++(6,.slice (.own 3) (P.map eR))::z,Ct s t++[.tick 8 P.length]⟩=some r) :
  ∃r,Q r/\bS (ag aH) [.bl 4 8] 0 k (.loop [2,3,4,5,6,7] YH) (Cs c++[(6,.slice (.own 3) (s.bq.map eR)),(7,.int .i64 0)]) (Ct s t++[.tick 8 s.bq.length])=some r:=by
 have h200:=hs.sz.nodes;refine di (xs:=s.now.nodes) (by omega) (fun m (P:List iy)=>P.length<=s.bq.length+m/\∀p,p∈P->p∈s.bq\/p.node∈s.now.nodes) (fun P i=>Cs c++[(6,.slice (.own 3) (P.map eR)),(7,.int .i64 i)]) (fun P=>Ct s t++[.tick 8 P.length]) Q (fun P hP=>?_) (fun pre x post P e hx' hlt hw h0 hm hP hi=>?_) s.bq ⟨Nat.le_refl _,fun p h => .inl h⟩
 ·simp only[Ct,Cs,aE,List.cons_append,List.nil_append] at hx ⊢;simp only[Iz,Int.lt_irrefl,EW,simprocAttr];exact hx P _ hP.1 hP.2
 ·have hlx:=(List.getElem?_eq_some_iff.1 hx').1;obtain⟨y,hy⟩:∃y,s.since[pre.length]?=some y:=⟨_,List.getElem?_eq_getElem (by omega)⟩
  have i1:=hi P ⟨by omega,hP.2⟩
  have i2:=hi (P++[⟨y,c,x⟩]) ⟨by simp; omega,fun p hp=>by
   rcases List.mem_append.1 hp with hp|hp
   ·exact hP.2 p hp
   ·rw[List.mem_singleton.1 hp]; exact .inr hm⟩
  have qg:=fun M=>tP t.nodes t.next t.af x.ino (by have:=ht.sz.nodes; omega) M
  generalize (find t.nodes x.ino).getD Node.zero=n at qg;generalize (find t.nodes x.ino).isSome=b at qg;have qs:=fun M=>k96 x n (by have:=(hs.Qx hm).1; omega) M
  have qw:=fun M=>adY s.taken y c (by omega) M
  generalize decide (x=n)=d at qs;generalize sP s.taken y c=w at qw;have r1:aP (P.length+1) 96=True:=jx;simp only[Ct,Cs,aE,List.cons_append,List.nil_append,List.map_append,List.map_cons,List.map_nil,List.length_append,List.length_cons,List.length_nil,Nat.zero_add,eR,fT,an] at i1 i2 qs ⊢;cases b<;>cases d<;>cases w<;>simp only[Iz,hlt,hx',hy,hw,h0,qg,qs,qw,r1,aF,an,fF,EW,simprocAttr]<;>first|exact i1|exact i2
def Tq(hs:Rt s.now)(hl:s.since.length=s.now.nodes.length){P:List iy}{S:List Int}{i:Nat}{n:Node}(hn:t.nodes[i]?=some n){k:List K}
  (hx:∀(x:Int) z,∃r,Q r/\kr (ag aH) [.bl 4 8] 0 k ⟨.exit 4,Cs c++(6,.slice (.own 3) (P.map eR))::(11,.slice (.own 4) (S.map fF))::(12,.int .i64 i)::(13,.int .i64 x)::z,Ct s t++[.tick 8 P.length,.tick 1 S.length]⟩=some r) (x:Int) :
  ∃r,Q r/\bS (ag aH) [.bl 4 8] 0 k (.loop [2,3,4,5,6,11,12,13,14] YI) (Cs c++[(6,.slice (.own 3) (P.map eR)),(11,.slice (.own 4) (S.map fF)),(12,.int .i64 i),(13,.int .i64 x),(14,.int .i64 0)]) (Ct s t++[.tick 8 P.length,.tick 1 S.length])=some r:=by
 have h200:=hs.sz.nodes;have b1:((i:Int)<0)=False:=by simp
 refine di (xs:=s.now.nodes) (by omega) (fun _ _=>True) (fun(x:Int) j=>Cs c++[(6,.slice (.own 3) (P.map eR)),(11,.slice (.own 4) (S.map fF)),(12,.int .i64 i),(13,.int .i64 x),(14,.int .i64 j)]) (fun _=>Ct s t++[.tick 8 P.length,.tick 1 S.length]) Q (fun x _=>?_) (fun pre m post x e hx' hlt hw h0 hm _ hi=>?_) x trivial
 ·simp only[Ct,Cs,aE,List.cons_append,List.nil_append] at hx ⊢;simp only[Iz,Int.lt_irrefl,EW,simprocAttr];exact hx x _
 ·have hlx:=(List.getElem?_eq_some_iff.1 hx').1;obtain⟨y,hy⟩:∃y,s.since[pre.length]?=some y:=⟨_,List.getElem?_eq_getElem (by omega)⟩
  have qs:=fun M=>k96 m n (by have:=(hs.Qx hm).1; omega) M
  generalize decide (m=n)=d at qs;have i1:=hi x trivial;have i2:=hi y trivial;simp only[Ct,Cs,aE,List.cons_append,List.nil_append,an] at i1 i2 qs ⊢;cases d<;>simp only[Iz,hlt,hx',hy,hn,b1,hw,h0,qs,aF,an,fF,EW,simprocAttr]<;>first|exact i1|exact i2
def Tr(hs:Rt s.now)(ht:Rt t)(hl:s.since.length=s.now.nodes.length){P:List iy}{k:List K}
  (hx:∀(S:List Int) z,S.length=t.nodes.length->∃r,Q r/\kr (ag aH) [.bl 4 8] 0 k ⟨.exit 2,Cs c++(6,.slice (.own 3) (P.map eR))::(11,.slice (.own 4) (S.map fF))::z,Ct s t++[.tick 8 P.length,.tick 1 S.length]⟩=some r) :
  ∃r,Q r/\bS (ag aH) [.bl 4 8] 0 k (.loop [2,3,4,5,6,11,12] YJ) (Cs c++[(6,.slice (.own 3) (P.map eR)),(11,.slice (.own 4) []),(12,.int .i64 0)]) (Ct s t++[.tick 8 P.length,.tick 1 0])=some r:=by
 have h200:=ht.sz.nodes;refine di (xs:=t.nodes) (by omega) (fun m (S:List Int)=>S.length=m) (fun S i=>Cs c++[(6,.slice (.own 3) (P.map eR)),(11,.slice (.own 4) (S.map fF)),(12,.int .i64 i)]) (fun S=>Ct s t++[.tick 8 P.length,.tick 1 S.length]) Q (fun S hS=>?_) (fun pre n post S e hx' hlt hw h0 hm hS hi=>?_) [] rfl
 ·simp only[Ct,Cs,aE,List.cons_append,List.nil_append] at hx ⊢;simp only[Iz,Int.lt_irrefl,EW,simprocAttr];exact hx S _ hS
 ·have hlx:=(List.getElem?_eq_some_iff.1 hx').1;have lb:=fun {k} h2=>Tq (s:=s) (t:=t) (Q:=Q) (c:=c) hs hl (P:=P) (S:=S) hx' (k:=k) h2 c
  have r1:aP (S.length+1) 8=True:=jx;have i1:=fun x=>hi (S++[x]) (by simp[hS])
  simp only[Ct,Cs,aE,List.cons_append,List.nil_append,List.map_append,List.map_cons,List.map_nil,List.length_append,List.length_cons,List.length_nil,Nat.zero_add,fF] at lb i1 ⊢;simp only[Iz,hlt,EW,simprocAttr];refine lb (fun x z=>?_)
  simp only[Iz,hw,r1,lR,fF,EW,simprocAttr];exact i1 x
end
def IE(s:c8)(t:Tree)(u:c8):Prop:=u=s\/(u.now=t/\u.since.length=t.nodes.length/\u.taken=s.taken/\u.bq.length<=s.bq.length+s.now.nodes.length/\∀p,p∈u.bq->p∈s.bq\/p.node∈s.now.nodes)
def c56(s:c8)(t:Tree)(hs:Rt s.now)(ht:Rt t)(hl:s.since.length=s.now.nodes.length)(hk:s.taken.length<=16)(hp:s.bq.length<=90000):∃u,ag aH 56 [.agg (aE s),aA t] []=some (.agg (aE u),[])/\IE s t u:=by
 have key:∃r:ae×aj,(∃u,r=(.agg (aE u),[])/\IE s t u)/\bS (ag aH) GY.results 0 [] GY.body (bW 0 [.agg (aE s),aA t]) []=some r:=by
  have h200:=hs.sz.nodes;have qs:=fun M=>k95 s.now t (by omega) (fun n hn=>by have:=(hs.Qx hn).1; omega) M
  cases hd:decide (s.now=t)<;>rw[hd] at qs
  ·have la:=fun {k Q} hx=>Tp (s:=s) (t:=t) (Q:=Q) (c:=IntKind.i64.wrap (s.tick+1)) hs ht hl hk hp (k:=k) hx
   have r1:aP s.bq.length 96=True:=jx;simp only[Ct,Cs,aE,List.cons_append,List.nil_append] at la;simp only[GY,Iz,aE,aA,ak,qs,r1,EW,simprocAttr];refine la (fun P z h1 h2=>?_)
   have lc:=fun {k Q} hx=>Tr (s:=s) (t:=t) (Q:=Q) (c:=IntKind.i64.wrap (s.tick+1)) hs ht hl (P:=P) (k:=k) hx
   simp only[Ct,Cs,aE,List.cons_append,List.nil_append] at lc;simp only[Iz,EW,simprocAttr];refine lc (fun S z h3=>?_)
   simp only[Iz,EW,simprocAttr];exact⟨_,⟨⟨t,IntKind.i64.wrap (s.tick+1),S,P,s.taken,s.next⟩,rfl,.inr ⟨rfl,h3,rfl,h1,h2⟩⟩,rfl⟩
  ·simp only[GY,Iz,aE,aA,ak,qs,EW,simprocAttr];exact⟨_,⟨s,rfl,.inl rfl⟩,rfl⟩
 obtain⟨_,⟨u,rfl,h1⟩,h3⟩:=key;exact⟨u,ai h3,h1⟩
def ai0(s:c8)(ino:Int)(hs:s.now.nodes.length<=100000)(hk:s.taken.length<=16):∃u i e,ag aH 114 [.agg (aE s),.int .i64 ino] []=some (.tuple [.agg (aE u),.int .i64 i,.int .i64 e],[])/\u.now=s.now/\u.since=s.since/\u.bq=s.bq/\u.taken.length<=16:=by
 have qg:=fun M=>tP s.now.nodes s.now.next s.now.af ino hs M
 generalize (find s.now.nodes ino).getD Node.zero=n at qg;cases h1:(find s.now.nodes ino).isSome<;>rw[h1] at qg
 ·refine⟨s,0,70,ai ?_,rfl,rfl,rfl,hk⟩;simp only[wj,Il,aE,aF,an,qg,EW,simprocAttr]
 cases h2:n.kind != 2
 case true =>
  refine⟨s,0,73,ai ?_,rfl,rfl,rfl,hk⟩;simp only[wj,Il,aE,aF,an,qg,h2,EW,simprocAttr]
 cases h3:decide (16<=(s.taken.length:Int))
 case true =>
  refine⟨s,0,76,ai ?_,rfl,rfl,rfl,hk⟩;simp only[wj,Il,aE,aF,an,qg,h2,h3,EW,simprocAttr]
 cases h4:decide (1099511627776<=s.next)
 case true =>
  refine⟨s,0,76,ai ?_,rfl,rfl,rfl,hk⟩;simp only[wj,Il,aE,aF,an,qg,h2,h3,h4,EW,simprocAttr]
 have h16:s.taken.length<16:=by simp at h3; omega
 have r1:aP s.taken.length 24=True:=jx;have r2:aP (s.taken.length+1) 24=True:=jx;refine⟨⟨s.now,s.tick,s.since,s.bq,s.taken++[⟨s.next,ino,s.tick⟩],IntKind.i64.wrap (s.next+1)⟩,s.next,0,ai ?_,rfl,rfl,rfl,by simp; omega⟩
 simp only[wj,Il,aE,aF,an,qg,h2,h3,h4,r1,r2,List.map_append,eA,EW,simprocAttr];rw[show eN (s.taken++[⟨s.next,ino,s.tick⟩]) = .slice .sh (s.taken.map eA++[.agg [.int .i64 s.next,.int .i64 ino,.int .i64 s.tick]]) by simp[eA,cS]]
end
end Go.Proofs.YtahkjijkflobhaaGreatDoor
namespace Go.Abs
open Go
def E2{C:bL}{fn:List km}{base:Nat}{k:List K}{live:List Nat}{body:aO}{α σ ρ:Type}{xs:List α}(hn:xs.length<=1000000)(I:Nat->σ->Prop)(go:List α->σ->ρ)(E:σ->Int->Env)(M:σ->aj)(R:ρ->Option (ae×aj))
  (hend:∀s,I xs.length s->bS C fn base (.loop live (M s).length body::k) body (fj (E s xs.length) live) (M s)=R (go [] s))
  (hstep:∀(pre:List α)(x:α)(post:List α)(s:σ),xs=pre++x::post->xs[pre.length]?=some x->((pre.length:Int)<xs.length)=True->IntKind.i64.wrap ((pre.length:Int)+1)=(pre.length:Int)+1->((pre.length:Int)<0)=False->x∈xs->I pre.length s ->
   (∀s',I (pre.length+1) s'->bS C fn base k (.loop live body) (E s' ((pre.length:Int)+1)) (M s')=R (go post s'))->bS C fn base (.loop live (M s).length body::k) body (fj (E s pre.length) live) (M s)=R (go (x::post) s)) :
  ∀s,I 0 s->bS C fn base k (.loop live body) (E s 0) (M s)=R (go xs s):=by
 have key:∀(l pre:List α)(s:σ),xs=pre++l->I pre.length s->bS C fn base k (.loop live body) (E s pre.length) (M s)=R (go l s):=by
  intro l;induction l with
  |nil =>
   intro pre s h hI;have e:pre.length=xs.length:=by rw[h]; simp
   rw[aC,e];exact hend s (by rw[<-e]; exact hI)
  |cons x r ih =>
   intro pre s h hI;rw[aC];have hl:pre.length+1<=1000000:=by rw[h] at hn; simp at hn; omega
   refine hstep pre x r s h (by rw[h]; simp) (by rw[h]; simp; omega) (cL (by omega) (by omega)) (by simp) (by rw[h]; simp) hI fun s' hI'=>?_
   have:=ih (pre++[x]) s' (by rw[h]; simp) (by simpa using hI')
   simpa using this
 intro s hI;exact key xs [] s rfl hI
end Go.Abs
namespace Go.Proofs.YtahkjijkflobhaaGreatDoor
open Go Go.Abs
def Ac:Bytes->Bytes->List Bytes->Option (List Bytes)
 | [],cur,out=>if (!cr cur||(out.length:Int)==12)=true then none else some (out++[cur])
 |b::r,cur,out=>if ((b.toNat:Int) != 47)=true then Ac r (cur++[b]) out else if (!cr cur||(out.length:Int)==12)=true then none else Ac r [] (out++[cur])
def hU(s:Bytes):List Bytes×Int:=if (s==[47])=true then ([],0) else match s with
 | []=>([],60)
 |b::r=>if ((b.toNat:Int) != 47)=true then ([],60) else match Ac r [] [] with
  |none=>([],60)
  |some l=>(l,0)
section
attribute [local irreducible] bS cz fu gK bG kr ag ar aQ aG
def YU{s:Bytes}(hs:s.length<=100000){k:List K}{R:Option (List Bytes)->Option (ae×aj)}
  (hx:∀(l:List Bytes) z,kr (ag aH) [.tmp 2,.tmp 3] 0 k ⟨.exit 0,(0,.str s)::(4,.slice (.own 0) (l.map .str))::z,[.tick 1 l.length]⟩=R (some l))
  (hr:∀n,kr (ag aH) [.tmp 2,.tmp 3] 0 k ⟨.ret,[(2,.slice .c0 []),(3,.int .i64 60)],[.tick 1 n]⟩=R none) :
  ∀(rest:Bytes)(n m:Nat)(cur:Bytes)(out:List Bytes),s.drop m=rest->m+rest.length=s.length->n<=m->(s.take m).drop n=cur->out.length<=12 ->
   bS (ag aH) [.tmp 2,.tmp 3] 0 k (.loop [0,4,5,6] Yy) [(0,.str s),(4,.slice (.own 0) (out.map .str)),(5,.int .i64 n),(6,.int .i64 m)] [.tick 1 out.length]=R (Ac rest cur out):=by
 intro rest;induction rest with
 |nil =>
  intro n m cur out h1 h2 h3 h4 h5;simp only[List.length_nil,Nat.add_zero] at h2;rw[aC];have e1:((m:Int)<=(s.length:Int))=True:=nj;have e2:((m:Int)<(s.length:Int))=False:=Zh;have e3:((n:Int)<=(m:Int))=True:=nj;have w1:IntKind.i64.wrap ((m:Int)+1)=(m:Int)+1:=cL (by omega) (by omega)
  have e4:((m:Int)+1<=(s.length:Int))=False:=Zh;have hc:cur.length<=100000:=by rw[<-h4]; simp; omega
  have q:=fun M=>k97 cur hc M
  have r1:aP (out.length+1) 16=True:=jx;have i1:=hx (out++[cur]);simp only[List.map_append,List.map_cons,List.map_nil,List.length_append,List.length_cons,List.length_nil,Nat.zero_add] at i1;rw[Ac]
  cases h6:cr cur<;>rw[h6] at q<;>cases h7:(out.length:Int)==12 <;>
   simp only[Ic,e1,e2,e3,h4,q,h7,Bool.true_or,Bool.false_or,Bool.or_true,Bool.or_false,if_true,Bool.false_eq_true,if_false,EW,simprocAttr]<;>first|exact hr _|skip
  simp only[Ic,r1,w1,EW,simprocAttr];rw[aC];simp only[Ic,e4,EW,simprocAttr];exact i1 _
 |cons b r ih =>
  intro n m cur out h1 h2 h3 h4 h5;simp only[List.length_cons] at h2;rw[aC];have e1:((m:Int)<=(s.length:Int))=True:=nj;have e2:((m:Int)<(s.length:Int))=True:=nj;have e3:((n:Int)<=(m:Int))=True:=nj;have w1:IntKind.i64.wrap ((m:Int)+1)=((m+1:Nat):Int):=by rw[cL (by omega) (by omega)]; rfl
  have hc:cur.length<=100000:=by rw[<-h4]; simp; omega
  have hb:s[m]?=some b:=by
   have:(s.drop m)[0]?=some b:=by rw[h1]; rfl
   simpa using this
  have hd:s.drop (m+1)=r:=by rw[<-List.drop_drop,h1]; rfl
  have hm:=(List.getElem?_eq_some_iff.1 hb).1
  have ht:(s.take (m+1)).drop n=cur++[b]:=by
   rw[List.take_add_one,hb,Option.toList_some,List.drop_append_of_le_length (by simp; omega),h4]
  have q:=fun M=>k97 cur hc M
  have r1:aP (out.length+1) 16=True:=jx;have i1:=ih n (m+1) (cur++[b]) out hd (by omega) (by omega) ht h5
  have i2:=fun h=>ih (m+1) (m+1) [] (out++[cur]) hd (by omega) (by omega) (by simp) h
  simp only[List.map_append,List.map_cons,List.map_nil,List.length_append,List.length_cons,List.length_nil,Nat.zero_add] at i2;rw[Ac];cases h8:(b.toNat:Int) != 47
  ·cases h6:cr cur<;>rw[h6] at q<;>cases h7:(out.length:Int)==12 <;>
    simp only[Ic,e1,e2,e3,h4,hb,h8,q,h7,Bool.true_or,Bool.false_or,Bool.or_true,Bool.or_false,if_true,Bool.false_eq_true,if_false,EW,simprocAttr]<;>first|exact hr _|skip
   have h9:out.length+1<=12:=by simp at h7; omega
   simp only[Ic,r1,w1,EW,simprocAttr];exact i2 h9
  ·simp only[Ic,e1,e2,hb,h8,w1,if_true,EW,simprocAttr];exact i1
def c35(s:Bytes)(hs:s.length<=100000):ag aH 35 [.str s] []=some (.tuple [bg (hU s).1,.int .i64 (hU s).2],[]):=by
 refine ai ?_;unfold hU;cases h0:s==[47]
 ·cases s with
  |nil=>simp only[GX,Ic,h0,Bool.false_eq_true,if_false,EW,simprocAttr]; rfl
  |cons b r =>
   have h1:((b::r)==[])=false:=rfl;cases h8:(b.toNat:Int) != 47
   ·have hl:=fun {k R} hx hr=>YU hs (k:=k) (R:=R) hx hr r 1 1 [] [] rfl (by simp; omega) (by omega) (by simp) (by simp)
    simp only[List.map_nil,List.length_nil] at hl;simp only[GX,Ic,h0,h1,h8,Bool.false_eq_true,if_false,EW,simprocAttr];refine hl (R:=fun o=>some (.tuple [bg (match o with|none=>(([]:List Bytes),(60:Int))|some l=>(l,0)).1,.int .i64 (match o with|none=>(([]:List Bytes),(60:Int))|some l=>(l,0)).2],[])) (fun l z=>?_) (fun n=>?_)
    ·simp only[Ic,EW,simprocAttr]
    ·simp only[Ic,EW,simprocAttr]; rfl
   ·simp only[GX,Ic,h0,h1,h8,Bool.false_eq_true,if_false,if_true,EW,simprocAttr]; rfl
 ·simp only[GX,Ic,h0,if_true,EW,simprocAttr]; rfl
def k35 s hs:=cP (c35 s hs)
def rb(l:List Bytes)(s:Bytes):Bytes:=l.foldl (fun s x=>s++[47]++x) s
def Fu(l:List Bytes):Bytes:=if ((l.length:Int)==0)=true then [47] else rb l []
def wD:∀(l:List Bytes)(s:Bytes),(∀x,x∈l->x.length<=32)->(rb l s).length<=s.length+33*l.length
 | [],s,_=>by simp[rb]
 |x::l,s,h=>by
  have h1:=wD l (s++[47]++x) fun y hy=>h y (List.mem_cons_of_mem _ hy)
  have h2:=h x List.mem_cons_self;simp only[rb,List.foldl_cons,List.length_append,List.length_cons,List.length_nil] at h1 ⊢;omega
def c36(l:List Bytes)(hl:l.length<=12)(h:∀x,x∈l->x.length<=32):ag aH 36 [bg l] []=some (.str (Fu l),[]):=by
 refine ai ?_;unfold Fu;cases h0:(l.length:Int)==0<;>simp only[WG,E36,h0,Bool.false_eq_true,if_false,if_true,EW,simprocAttr]
 have key:∀ {k:List K} {R:Bytes->Option (ae×aj)} (hx:∀s z,kr (ag aH) [.tmp 2] 0 k ⟨.exit 0,(0,bg l)::(3,.str s)::z,[]⟩=R s) (rest pre:List Bytes) (s:Bytes),l=pre++rest->s.length<=33*pre.length->bS (ag aH) [.tmp 2] 0 k (.loop [0,3,4] Yz) [(0,bg l),(3,.str s),(4,.int .i64 pre.length)] []=R (rb rest s):=by
  intro k R hx rest;induction rest with
  |nil =>
   intro pre s e _;rw[aC];simp only[E36,cQ e,rb,List.foldl_nil,EW,simprocAttr];exact hx _ _
  |cons x r ih =>
   intro pre s e hs;rw[aC];have hxl:=h x (by rw[e]; simp)
   have hp:pre.length+1<=12:=by rw[e] at hl; simp at hl; omega
   have hw:=ny pre x;have i1:=ih (pre++[x]) (s++[47]++x) (by rw[e]; simp) (by simp; omega)
   have m1:(IntKind.i64.max<((s.length+1:Nat):Int))=False:=max_lt _ (by omega)
   have m2:(IntKind.i64.max<((s.length+1+x.length:Nat):Int))=False:=max_lt _ (by omega)
   simp only[List.length_append,List.length_cons,List.length_nil,Nat.zero_add] at i1;simp only[rb,List.foldl_cons] at i1 ⊢;simp only[E36,cv e,bT e,hw,m1,m2,EW,simprocAttr];exact i1
 exact key (R:=fun s=>some (.str s,[])) (fun s z=>by simp only[E36,EW,simprocAttr]) l [] [] rfl (by simp)
def k36 l hl h:=cP (c36 l hl h)
def TX:∀(rest cur:Bytes)(out l:List Bytes),Ac rest cur out=some l->(∀x,x∈out->cr x=true)->out.length<=12->(∀x,x∈l->cr x=true)/\l.length<=12:=by
 have key:∀(cur:Bytes)(out:List Bytes),¬(!cr cur||(out.length:Int)==12)=true->(∀x,x∈out->cr x=true)->out.length<=12->(∀x,x∈out++[cur]->cr x=true)/\(out++[cur]).length<=12:=by
  intro cur out h1 h2 h3;simp only[Bool.or_eq_true,Bool.not_eq_true',beq_iff_eq,not_or,Bool.not_eq_false] at h1;refine⟨fun x hx=>?_,by simp; omega⟩
  rcases List.mem_append.1 hx with hx|hx
  ·exact h2 x hx
  ·rw[List.mem_singleton.1 hx]; exact h1.1
 intro rest;induction rest with
 |nil =>
  intro cur out l h h1 h2;rw[Ac] at h;split at h
  ·cases h
  ·rename_i hc;cases h;exact key cur out hc h1 h2
 |cons b r ih =>
  intro cur out l h h1 h2;rw[Ac] at h;split at h
  ·exact ih _ _ _ h h1 h2
  split at h
  ·cases h
  ·rename_i hc;obtain⟨k1,k2⟩:=key cur out hc h1 h2;exact ih _ _ _ h k1 k2
def pO(s:Bytes):(∀x,x∈(hU s).1->cr x=true)/\(hU s).1.length<=12:=by
 unfold hU;split
 ·simp
 split
 ·simp
 split
 ·simp
 split
 ·simp
 ·rename_i h;exact TX _ _ _ _ h (by simp) (by simp)
def uN(s:Bytes):Bytes×Bytes×Int:=if ((hU s).2 != 0||(((hU s).1.length:Int)==0))=true then ([],[],60) else ((hU s).1.getLast?.getD [],Fu (hU s).1.dropLast,0)
def ajG(s:Bytes)(hs:s.length<=100000):ag aH 172 [.str s] []=some (.tuple [.str (uN s).1,.str (uN s).2.1,.int .i64 (uN s).2.2],[]):=by
 refine ai ?_;have q:=fun M=>k35 s hs M
 obtain⟨o1,o2⟩:=pO s;unfold uN;generalize hU s=X at q o1 o2;obtain⟨l,e⟩:=X;simp only at q o1 o2 ⊢;cases h1:e != 0
 ·cases h2:(l.length:Int)==0
  ·obtain⟨A,x,rfl⟩:∃A x,l=A++[x]:=by
    refine⟨l.dropLast,l.getLast (by rintro rfl; simp at h2),(List.dropLast_concat_getLast _).symm⟩
   have qj:=fun M=>k36 A (by simp at o2; omega) (fun y hy=>iP (o1 y (by simp[hy]))) M
   simp only[List.length_append,List.length_cons,List.length_nil,Nat.zero_add] at h2 o2;have w1:IntKind.i64.wrap (((A.length+1:Nat):Int)-1)=(A.length:Int):=by rw[cL (by omega) (by omega)]; omega
   have a1:(A++[x])[A.length]?=some x:=by simp
   have a2:((A.length:Int)<((A.length+1:Nat):Int))=True:=nj;have a3:((A.length:Int)<=((A.length+1:Nat):Int))=True:=nj;have a4:((A.length:Int)<0)=False:=by simp
   have a5:(A++[x]).take A.length=A:=by simp
   simp only[Bj,Vu,q,h1,h2,w1,a2,a3,a4,a1,<-List.map_take,a5,qj,Bool.or_self,Bool.or_false,Bool.false_eq_true,if_false,List.getLast?_append,List.getLast?_singleton,List.dropLast_concat,Option.getD_some,Option.or_some,Option.some_or,EW,simprocAttr]
  ·simp only[Bj,Vu,q,h1,h2,Bool.or_true,Bool.false_or,if_true,EW,simprocAttr]
 ·simp only[Bj,Vu,q,h1,Bool.true_or,if_true,EW,simprocAttr]
def sX(nodes:List Node):List Bytes->Int->Int×Int
 | [],a=>(a,0)
 |x::r,a=>if ((bM nodes a x).2 != 0)=true then (0,(bM nodes a x).2) else sX nodes r (bM nodes a x).1
def u9(nodes:List Node)(s:Bytes):Int×Int:=if ((hU s).2 != 0)=true then (0,(hU s).2) else sX nodes (hU s).1 1
def aiR(t:Tree)(s:Bytes)(ht:Small t)(hs:s.length<=100000):ag aH 102 [aA t,.str s] []=some (.tuple [.int .i64 (u9 t.nodes s).1,.int .i64 (u9 t.nodes s).2],[]):=by
 refine ai ?_;have q:=fun M=>k35 s hs M
 obtain⟨o1,o2⟩:=pO s;unfold u9;generalize hU s=X at q o1 o2;obtain⟨l,e⟩:=X;simp only at q o1 o2 ⊢;cases h1:e != 0<;>simp only[Ju,Vj,aA,ak,q,h1,Bool.false_eq_true,if_false,if_true,EW,simprocAttr]
 refine mD (xs:=l) (by omega) (sX t.nodes) (fun a i=>[(2,.ptr 0 0),(6,bg l),(8,.int .i64 a),(9,.int .i64 i)]) (fun _=>[.cells [au t.nodes,.int .i64 t.next,.int .i64 t.af]]) (fun p=>some (.tuple [.int .i64 p.1,.int .i64 p.2],([]:aj))) (fun a=>?_) (fun pre x post a h hx hlt hw h0 hm hi=>?_) 1
 ·simp only[Vj,Int.lt_irrefl,sX,EW,simprocAttr]
 ·have ql:=fun M=>RG t.nodes t.next t.af a x ht (by have:=iP (o1 x hm); omega) M
  rw[sX];have i1:=hi (bM t.nodes a x).1;generalize bM t.nodes a x=u at ql i1;cases h2:u.2 != 0<;>simp only[Vj,hlt,hx,hw,ql,h2,Bool.false_eq_true,if_false,if_true,EW,simprocAttr]
  exact i1
def Xb(nodes:List Node)(next af:Int)(s:Bytes)(ht:Small ⟨nodes,next,af⟩)(hs:s.length<=100000)(M:aj):ar (ag aH) 102 [.agg [au nodes,.int .i64 next,.int .i64 af],.str s] M=some (.tuple [.int .i64 (u9 nodes s).1,.int .i64 (u9 nodes s).2],M):=cO (aiR ⟨nodes,next,af⟩ s ht hs) M
end
end Go.Proofs.YtahkjijkflobhaaGreatDoor
namespace Go.Proofs.YtahkjijkflobhaaGreatDoor
open Go Go.Abs
def jy(q:ba):List ba->Bool->List ba
 | [],d=>if d=true then [] else [q]
 |x::r,d=>(if (!d&&decide (q.ino<=x.ino))=true then [q] else [])++((if (x.ino != q.ino)=true then [x] else [])++jy q r (d||decide (q.ino<=x.ino)))
def ry(q:ba):∀l,jy q l true=l.filter fun x=>x.ino != q.ino
 | []=>rfl
 |x::r=>by
  rw[jy,Bool.true_or,ry q r,List.filter_cons];cases x.ino != q.ino<;>rfl
def Ep(q x:ba)(r:List ba):jy q (x::r) false=if q.ino<=x.ino then q::(x::r).filter fun x=>x.ino != q.ino else x::jy q r false:=by
 rw[jy]
 by_cases h:q.ino<=x.ino
 ·rw[if_pos h,decide_eq_true h,Bool.false_or,ry,List.filter_cons];cases x.ino != q.ino<;>rfl
 ·rw[if_neg h,decide_eq_false h];have:(x.ino != q.ino)=true:=by simp; omega
  rw[this]; rfl
def yO(q:ba):∀l,iH l->iH (jy q l false)/\(∀y,y∈jy q l false->y=q\/y∈l)/\(jy q l false).length<=l.length+1/\((∃x,x∈l/\x.ino=q.ino)->(jy q l false).length<=l.length)
 | [],_=>⟨List.pairwise_singleton _ _,fun y hy => .inl (by simpa[jy] using hy),Nat.le_refl _,fun⟨x,h,_⟩=>by cases h⟩
 |x::r,h=>by
  have hc:=List.pairwise_cons.1 h;obtain⟨i1,i2,i3,i4⟩:=yO q r hc.2;rw[Ep];split
  ·rename_i hq;have hf:=List.length_filter_le (fun x=>x.ino != q.ino) (x::r)
   refine⟨List.pairwise_cons.2 ⟨fun y hy=>?_,h.filter _⟩,fun y hy=>?_,by simp only[List.length_cons] at hf ⊢; omega,fun⟨z,hz,e⟩=>?_⟩
   ·obtain⟨h1,h2⟩:=List.mem_filter.1 hy;have h2:y.ino≠q.ino:=by simpa using h2
    rcases List.mem_cons.1 h1 with rfl|h1
    ·omega
    ·have:=hc.1 y h1; omega
   ·rcases List.mem_cons.1 hy with rfl|hy
    ·exact .inl rfl
    ·exact .inr (List.mem_filter.1 hy).1
   ·have:((x::r).filter fun x=>x.ino != q.ino).length<(x::r).length:=List.length_filter_lt_length_iff_exists.2 ⟨z,hz,by simp[e]⟩
    simp only[List.length_cons] at this ⊢; omega
  ·rename_i hq;refine⟨List.pairwise_cons.2 ⟨fun y hy=>?_,i1⟩,fun y hy=>?_,by simp only[List.length_cons]; omega,fun⟨z,hz,e⟩=>?_⟩
   ·rcases i2 y hy with rfl|hy
    ·omega
    ·exact hc.1 y hy
   ·rcases List.mem_cons.1 hy with rfl|hy
    ·exact .inr List.mem_cons_self
    ·exact(i2 y hy).imp id (List.mem_cons_of_mem _)
   ·rcases List.mem_cons.1 hz with rfl|hz
    ·omega
    ·have:=i4 ⟨z,hz,e⟩;simp only[List.length_cons]; omega
section
attribute [local irreducible] bS cz fu gK bG kr ag ar aQ aG
def ajU(t:Tree)(ino:Int)(ht:t.nodes.length<=100000):ag aH 186 [aA t,.int .i64 ino] []=some (.bool ((find t.nodes ino).isSome&&(aD t.nodes ino).kind==2),[]):=by
 refine ai ?_;have q:=fun M=>tP t.nodes t.next t.af ino ht M
 have hz:(find t.nodes ino).getD Node.zero=aD t.nodes ino:=rfl;rw[hz] at q;generalize aD t.nodes ino=n at q
 cases h1:(find t.nodes ino).isSome<;>rw[h1] at q<;>cases h2:n.kind==2 <;>
  simp only[Ki,ah7,aA,ak,q,h2,aF,an,Bool.and_false,Bool.true_and,Bool.false_and,EW,simprocAttr]
def aea(nodes:List Node)(next af ino:Int)(h:nodes.length<=100000)(M:aj):ar (ag aH) 186 [.agg [au nodes,.int .i64 next,.int .i64 af],.int .i64 ino] M=some (.bool ((find nodes ino).isSome&&(aD nodes ino).kind==2),M) :=
 cO (ajU ⟨nodes,next,af⟩ ino h) M
def akN(t:Tree)(ino:Int)(ht:t.nodes.length<=100000):∃n:Int,ag aH 288 [aA t,.int .i64 ino] []=some (.int .i64 n,[])/\(n = -1\/∃i:Nat,i<t.nodes.length/\n=i):=by
 have key:∃r:ae×aj,(∃n:Int,r=(.int .i64 n,[])/\(n = -1\/∃i:Nat,i<t.nodes.length/\n=i))/\bS (ag aH) Bz.results 0 [] Bz.body (bW 0 [aA t,.int .i64 ino]) []=some r:=by
  simp only[Bz,VF,aA,ak,EW,simprocAttr];refine di (xs:=t.nodes) (by omega) (fun _ (_:Unit)=>True) (fun _ i=>[(1,.int .i64 ino),(2,.ptr 0 0),(5,.int .i64 i)]) (fun _=>[.cells [au t.nodes,.int .i64 t.next,.int .i64 t.af]]) _ (fun _ _=>?_) (fun pre x post _ e hx hlt hw h0 hm _ hi=>?_) () trivial
  ·simp only[VF,Int.lt_irrefl,EW,simprocAttr];exact⟨_,⟨-1,rfl,.inl rfl⟩,rfl⟩
  ·have hl:=(List.getElem?_eq_some_iff.1 hx).1;have i1:=hi () trivial;cases h1:x.ino==ino<;>simp only[VF,hlt,hx,hw,h0,h1,aF,an,EW,simprocAttr]
   ·exact i1
   ·exact⟨_,⟨_,rfl,.inr ⟨_,hl,rfl⟩⟩,rfl⟩
 obtain⟨_,⟨n,rfl,h1⟩,h3⟩:=key;exact⟨n,ai h3,h1⟩
def acK(l:List ba)(ino:Int)(hn:l.length<=100000):∃n:Int,ag aH 188 [a8 l,.int .i64 ino] []=some (.int .i64 n,[])/\(0<=n->∃x,x∈l/\x.ino=ino):=by
 have key:∃r:ae×aj,(∃n:Int,r=(.int .i64 n,[])/\(0<=n->∃x,x∈l/\x.ino=ino))/\bS (ag aH) Bm.results 0 [] Bm.body (bW 0 [a8 l,.int .i64 ino]) []=some r:=by
  simp only[Bm,Vx,EW,simprocAttr];refine di (xs:=l) (by omega) (fun _ (_:Unit)=>True) (fun _ i=>[(0,a8 l),(1,.int .i64 ino),(5,.int .i64 i)]) (fun _=>[]) _ (fun _ _=>?_) (fun pre x post _ e hx hlt hw h0 hm _ hi=>?_) () trivial
  ·simp only[Vx,Int.lt_irrefl,EW,simprocAttr];exact⟨_,⟨-1,rfl,fun h=>absurd h (by decide)⟩,rfl⟩
  ·have i1:=hi () trivial;cases h1:x.ino==ino<;>simp only[Vx,hlt,hx,hw,h0,h1,bz,cZ,EW,simprocAttr]
   ·exact i1
   ·exact⟨_,⟨_,rfl,fun _=>⟨x,hm,by simpa using h1⟩⟩,rfl⟩
 obtain⟨_,⟨n,rfl,h1⟩,h3⟩:=key;exact⟨n,ai h3,h1⟩
abbrev BL(n:Nat):={ m:List Bool // m.length=n }
abbrev xI(t:Tree)(m:List Bool):aj:=[.cells [au t.nodes,.int .i64 t.next,.int .i64 t.af],.arr 1 0 (m.map ae.bool)]
section
variable {t:Tree} {ino by':Int} {Q:ae×aj->Prop}
def OL(ht:t.nodes.length<=100000){i:Nat}{x:Node}(hxi:t.nodes[i]?=some x)(hxe:x.av.length<=100000){k:List K}
  (hx:∀(s:Bool×BL t.nodes.length) z,∃r,Q r/\kr (ag aH) [.tmp 4] 0 k ⟨.exit 4,(1,.int .i64 ino)::(2,.ptr 0 0)::(5,.aW 1 0 1 0 t.nodes.length)::(6,.int .i64 by')::(7,.bool s.1)::(8,.int .i64 i)::z,xI t s.2.1⟩=some r) (s:Bool×BL t.nodes.length) :
  ∃r,Q r/\bS (ag aH) [.tmp 4] 0 k (.loop [1,2,5,6,7,8,9] Sy) [(1,.int .i64 ino),(2,.ptr 0 0),(5,.aW 1 0 1 0 t.nodes.length),(6,.int .i64 by'),(7,.bool s.1),(8,.int .i64 i),(9,.int .i64 0)] (xI t s.2.1)=some r:=by
 have b1:((i:Int)<0)=False:=by simp
 refine di (xs:=x.av) (by omega) (fun _ _=>True) (fun(s:Bool×BL t.nodes.length) j=>[(1,.int .i64 ino),(2,.ptr 0 0),(5,.aW 1 0 1 0 t.nodes.length),(6,.int .i64 by'),(7,.bool s.1),(8,.int .i64 i),(9,.int .i64 j)]) (fun s=>xI t s.2.1) Q (fun s _=>?_) (fun pre e post s h hx' hlt hw h0 hm _ hi=>?_) s trivial
 ·simp only[ve,Int.lt_irrefl,hxi,b1,aF,an,EW,simprocAttr];exact hx s _
 ·obtain⟨n,q,hn⟩:=akN t e.ino ht;have qp:=cP q;simp only[aA,ak] at qp;have hm2:=s.2.2;rcases hn with rfl|⟨a,ha,rfl⟩
  ·have i1:=hi s trivial;simp only[ve,hlt,hx',hw,h0,hxi,b1,qp,aA,ak,aF,an,cn,bU,EW,simprocAttr];exact i1
  ·have a0:((a:Int)<0)=False:=by simp
   have a1:((a:Int)<(t.nodes.length:Int))=True:=nj;have a2:(a<t.nodes.length)=True:=nj;have a3:(0<=(a:Int))=True:=by simp
   have a4:(a<s.2.1.length)=True:=nj;obtain⟨b,hb⟩:∃b,s.2.1[a]?=some b:=⟨_,List.getElem?_eq_getElem (by omega)⟩
   cases b
   ·have i1:=hi (true,⟨s.2.1.set a true,by simp[hm2]⟩) trivial
    simp only[ve,hlt,hx',hw,h0,hxi,b1,qp,a0,a1,a2,a3,a4,hb,hm2,uh,Nat.sub_zero,aA,ak,aF,an,cn,bU,EW,simprocAttr];exact i1
   ·have i1:=hi s trivial;simp only[ve,hlt,hx',hw,h0,hxi,b1,qp,a0,a1,a2,a3,a4,hb,hm2,uh,Nat.sub_zero,aA,ak,aF,an,cn,bU,EW,simprocAttr];exact i1
def OM(ht:t.nodes.length<=100000)(he:∀n,n∈t.nodes->n.av.length<=100000){k:List K}
  (hx:∀(s:Bool×BL t.nodes.length) z,∃r,Q r/\kr (ag aH) [.tmp 4] 0 k ⟨.exit 2,(1,.int .i64 ino)::(2,.ptr 0 0)::(5,.aW 1 0 1 0 t.nodes.length)::(6,.int .i64 by')::(7,.bool s.1)::z,xI t s.2.1⟩=some r) (s:Bool×BL t.nodes.length) :
  ∃r,Q r/\bS (ag aH) [.tmp 4] 0 k (.loop [1,2,5,6,7,8] SA) [(1,.int .i64 ino),(2,.ptr 0 0),(5,.aW 1 0 1 0 t.nodes.length),(6,.int .i64 by'),(7,.bool s.1),(8,.int .i64 0)] (xI t s.2.1)=some r:=by
 refine di (xs:=t.nodes) (by omega) (fun _ _=>True) (fun(s:Bool×BL t.nodes.length) j=>[(1,.int .i64 ino),(2,.ptr 0 0),(5,.aW 1 0 1 0 t.nodes.length),(6,.int .i64 by'),(7,.bool s.1),(8,.int .i64 j)]) (fun s=>xI t s.2.1) Q (fun s _=>?_) (fun pre x post s h hx' hlt hw h0 hm _ hi=>?_) s trivial
 ·simp only[ve,Int.lt_irrefl,EW,simprocAttr];exact hx s _
 ·have hl:=(List.getElem?_eq_some_iff.1 hx').1;have hm2:=s.2.2;have a4:(pre.length<s.2.1.length)=True:=nj;have a2:(pre.length<t.nodes.length)=True:=nj;obtain⟨b,hb⟩:∃b,s.2.1[pre.length]?=some b:=⟨_,List.getElem?_eq_getElem (by omega)⟩
  have la:=fun {k} hx2=>OL (t:=t) (ino:=ino) (by':=by') (Q:=Q) ht hx' (he x hm) (k:=k) hx2 s
  cases b<;>cases h1:x.ino != ino <;>
   simp only[ve,hlt,hx',hw,h0,a2,a4,hb,h1,hm2,Nat.sub_zero,aF,an,EW,simprocAttr]
  all_goals first
   |exact hi s trivial
   |(refine la (fun s' z=>?_)
     have i1:=hi s' trivial;simp only[ve,hw,EW,simprocAttr];exact i1)
def ON(ht:t.nodes.length<=100000)(he:∀n,n∈t.nodes->n.av.length<=100000){k:List K}
  (hx:∀(m:BL t.nodes.length) z,∃r,Q r/\kr (ag aH) [.tmp 4] 0 k ⟨.exit 0,(1,.int .i64 ino)::(2,.ptr 0 0)::(5,.aW 1 0 1 0 t.nodes.length)::z,xI t m.1⟩=some r)
  (hr:∀(m:BL t.nodes.length),∃r,Q r/\kr (ag aH) [.tmp 4] 0 k ⟨.ret,[(4,.aW 1 0 1 0 t.nodes.length)],xI t m.1⟩=some r) (m:BL t.nodes.length) :
  ∃r,Q r/\bS (ag aH) [.tmp 4] 0 k (.loop [1,2,5,6] SB) [(1,.int .i64 ino),(2,.ptr 0 0),(5,.aW 1 0 1 0 t.nodes.length),(6,.int .i64 0)] (xI t m.1)=some r:=by
 refine di (xs:=t.nodes) (by omega) (fun _ _=>True) (fun(_:BL t.nodes.length) j=>[(1,.int .i64 ino),(2,.ptr 0 0),(5,.aW 1 0 1 0 t.nodes.length),(6,.int .i64 j)]) (fun m=>xI t m.1) Q (fun m _=>?_) (fun pre x post m h hx' hlt hw h0 hm _ hi=>?_) m trivial
 ·simp only[ve,Int.lt_irrefl,EW,simprocAttr];exact hx m _
 ·have lb:=fun {k} hx2=>OM (t:=t) (ino:=ino) (by':=pre.length) (Q:=Q) ht he (k:=k) hx2 (false,m)
  simp only[ve,hlt,EW,simprocAttr];refine lb (fun s z=>?_)
  obtain⟨b,m'⟩:=s;have i1:=hi m' trivial;cases b<;>simp only[ve,hw,EW,simprocAttr]
  ·exact hr m'
  ·exact i1
end
def aky(t:Tree)(ino:Int)(ht:t.nodes.length<=100000)(he:∀n,n∈t.nodes->n.av.length<=100000):∃m:List Bool,ag aH 251 [aA t,.int .i64 ino] []=some (.slice .sh (m.map ae.bool),[])/\m.length=t.nodes.length:=by
 have key:∃r:ae×aj,(∃m:List Bool,r=(.slice .sh (m.map ae.bool),[])/\m.length=t.nodes.length)/\bS (ag aH) Bu.results 0 [] Bu.body (bW 0 [aA t,.int .i64 ino]) []=some r:=by
  have r1:aP t.nodes.length 8=True:=jx
  have hrep:List.replicate t.nodes.length (ae.agg [ae.bool false]).norm=(List.replicate t.nodes.length false).map ae.bool:=by
   rw[List.map_replicate]; rfl
  have lc:=fun {k Q} hx hr=>ON (t:=t) (ino:=ino) (Q:=Q) ht he (k:=k) hx hr ⟨List.replicate t.nodes.length false,by simp⟩
  simp only[Bu,ve,aA,ak,r1,hrep,EW,simprocAttr];refine lc (fun m z=>?_) (fun m=>?_) <;>
  ·have hm:=m.2;have htk:(m.1.map ae.bool).take t.nodes.length=m.1.map ae.bool:=List.take_of_length_le (by simp[hm])
   simp only[ve,hm,htk,Nat.sub_zero,EW,simprocAttr];exact⟨_,⟨m.1,rfl,hm⟩,rfl⟩
 obtain⟨_,⟨m,rfl,h1⟩,h3⟩:=key;exact⟨m,ai h3,h1⟩
def acJ(t:Tree)(ino:Int)(ht:t.nodes.length<=100000)(he:∀n,n∈t.nodes->n.av.length<=100000):∃a b:Int,ag aH 187 [aA t,.int .i64 ino] []=some (.tuple [.int .i64 a,.int .i64 b],[]):=by
 have key:∃r:ae×aj,(∃a b:Int,r=(.tuple [.int .i64 a,.int .i64 b],[]))/\bS (ag aH) Bl.results 0 [] Bl.body (bW 0 [aA t,.int .i64 ino]) []=some r:=by
  obtain⟨m,q,hm⟩:=aky t ino ht he;have qu:=cP q;have qd:=fun M=>aea t.nodes t.next t.af ino ht M
  generalize ((find t.nodes ino).isSome&&(aD t.nodes ino).kind==2)=b at qd;simp only[aA,ak] at qu;cases b<;>simp only[Bl,Vw,aA,ak,qd,qu,EW,simprocAttr]
  ·exact⟨_,⟨_,_,rfl⟩,rfl⟩
  refine di (xs:=m) (by omega) (fun _ (_:Int×Int)=>True) (fun s i=>[(2,.ptr 0 0),(7,.slice .sh (m.map ae.bool)),(8,.int .i64 s.1),(9,.int .i64 s.2),(10,.int .i64 i)]) (fun _=>[.cells [au t.nodes,.int .i64 t.next,.int .i64 t.af]]) _ (fun _ _=>?_) (fun pre x post s e hx hlt hw h0 _ _ hi=>?_) (0,0) trivial
  ·simp only[Vw,Int.lt_irrefl,EW,simprocAttr];exact⟨_,⟨_,_,rfl⟩,rfl⟩
  ·have hl:=(List.getElem?_eq_some_iff.1 hx).1;obtain⟨n,hn⟩:∃n,t.nodes[pre.length]?=some n:=⟨_,List.getElem?_eq_getElem (by omega)⟩
   cases x<;>simp only[Vw,hlt,hx,hw,h0,hn,aF,an,EW,simprocAttr]
   ·exact hi s trivial
   ·exact hi (_,_) trivial
 obtain⟨_,⟨a,b,rfl⟩,h3⟩:=key;exact⟨a,b,ai h3⟩
def akM(t:Tree)(l:List ba)(ino:Int)(ht:t.nodes.length<=100000)(hl:l.length<=100000):∃a:Int,ag aH 287 [aA t,a8 l,.int .i64 ino] []=some (.int .i64 a,[]):=by
 have key:∃r:ae×aj,(∃a:Int,r=(.int .i64 a,[]))/\bS (ag aH) Bx.results 0 [] Bx.body (bW 0 [aA t,a8 l,.int .i64 ino]) []=some r:=by
  simp only[Bx,VE,aA,ak,EW,simprocAttr];refine di (xs:=List.replicate (t.nodes.length+1) ()) (by simp; omega) (fun _ (_:Int)=>True) (fun a i=>[(1,a8 l),(3,.ptr 0 0),(7,.int .i64 a),(8,.int .i64 i)]) (fun _=>[.cells [au t.nodes,.int .i64 t.next,.int .i64 t.af]]) _ (fun a _=>?_) (fun pre x post a e hx hlt hw h0 _ _ hi=>?_) ino trivial
  ·have e1:(((t.nodes.length+1:Nat):Int)<=(t.nodes.length:Int))=False:=Zh;simp only[VE,e1,List.length_replicate,EW,simprocAttr];exact⟨_,⟨_,rfl⟩,rfl⟩
  ·have e1:((pre.length:Int)<=(t.nodes.length:Int))=True:=by
    have:=of_eq_true hlt;rw[List.length_replicate] at this;simp only[eq_iff_iff,iff_true]; omega
   obtain⟨n,q,_⟩:=acK l a hl;have qf:=cP q;have qg:=fun M=>tP t.nodes t.next t.af a ht M
   generalize (find t.nodes a).getD Node.zero=y at qg;cases h1:decide (0<=n)<;>cases h2:a==1<;>simp only[VE,e1,hw,qf,qg,h1,h2,aF,an,EW,simprocAttr]<;>first|exact⟨_,⟨_,rfl⟩,rfl⟩|exact hi _ trivial
 obtain⟨_,⟨a,rfl⟩,h3⟩:=key;exact⟨a,ai h3⟩
def SL{l:List ba}(hl:l.length<=16){q:ba}{t:Tree}{k:List K}{R:List ba->Option (ae×aj)}
  (hx:∀(out:List ba) (d:Bool) z,out.length<=40->kr (ag aH) [.tmp 10,.tmp 11] 0 k ⟨.exit 0,(1,a8 l)::(2,.int .i64 q.ino)::(3,.int .i64 q.nodes)::(4,.int .i64 q.bytes)::(17,.slice (.own 2) (out.map bz))::(18,.bool d)::z,[.cells (ak t),.cells (an (aD t.nodes q.ino)),.tick 3 out.length]⟩=R (out++jy q [] d)) :
  ∀(s:List ba×Bool),s.1.length<=0->bS (ag aH) [.tmp 10,.tmp 11] 0 k (.loop [1,2,3,4,17,18,19] RX) [(1,a8 l),(2,.int .i64 q.ino),(3,.int .i64 q.nodes),(4,.int .i64 q.bytes),(17,.slice (.own 2) (s.1.map bz)),(18,.bool s.2),(19,.int .i64 0)] [.cells (ak t),.cells (an (aD t.nodes q.ino)),.tick 3 s.1.length]=R (s.1++jy q l s.2):=by
 refine E2 (xs:=l) (by omega) (fun m (s:List ba×Bool)=>s.1.length<=2*m) (fun post s=>s.1++jy q post s.2) (fun s i=>[(1,a8 l),(2,.int .i64 q.ino),(3,.int .i64 q.nodes),(4,.int .i64 q.bytes),(17,.slice (.own 2) (s.1.map bz)),(18,.bool s.2),(19,.int .i64 i)]) (fun s=>[.cells (ak t),.cells (an (aD t.nodes q.ino)),.tick 3 s.1.length]) R (fun s hI=>?_) (fun pre x post s e hx' hlt hw h0 hm hI hi=>?_)
 ·simp only[ak,an] at hx ⊢;simp only[vC,Int.lt_irrefl,EW,simprocAttr];exact hx s.1 s.2 _ (by omega)
 ·have hp:=(List.getElem?_eq_some_iff.1 hx').1;obtain⟨out,d⟩:=s;simp only at hI;have r1:aP (out.length+1) 24=True:=jx;have r2:aP (out.length+1+1) 24=True:=jx;rw[jy];simp only[ak,an] at hi ⊢;have i1:=hi (out++[q]++[x],true) (by simp; omega)
  have i2:=hi (out++[q],true) (by simp; omega)
  have i3:=hi (out++[x],d) (by simp; omega)
  have i4:=hi (out,d) (by simp only; omega)
  simp only[List.map_append,List.map_cons,List.map_nil,List.length_append,List.length_cons,List.length_nil,Nat.zero_add,List.append_assoc,List.cons_append,List.nil_append,bz,cZ] at i1 i2 i3 i4
  cases d<;>cases h1:decide (q.ino<=x.ino)<;>cases h2:x.ino != q.ino <;>
   simp only[vC,hlt,hx',hw,h0,h1,h2,r1,r2,bz,cZ,Bool.true_and,Bool.false_and,Bool.true_or,Bool.false_or,Bool.or_true,Bool.or_false,Bool.false_eq_true,if_true,if_false,List.append_assoc,EW,simprocAttr]<;>first|exact i4|exact i3|exact i2|exact i1
def aiZ(t:Tree)(l:List ba)(ino nodes bytes:Int)(ht:t.nodes.length<=100000)(he:∀n,n∈t.nodes->n.av.length<=100000)(hq:iH l)(hn:l.length<=16) :
  ∃m e,ag aH 113 [aA t,a8 l,.int .i64 ino,.int .i64 nodes,.int .i64 bytes] []=some (.tuple [a8 m,.int .i64 e],[])/\iH m/\m.length<=16:=by
 obtain⟨a,b,qa⟩:=acJ t ino ht he;obtain⟨n,qn,hf⟩:=acK l ino (by omega)
 have qu:=cP qa;have qf:=cP qn;have qg:=fun M=>tP t.nodes t.next t.af ino ht M
 have qd:=fun M=>aea t.nodes t.next t.af ino ht M
 have hz:(find t.nodes ino).getD Node.zero=aD t.nodes ino:=rfl;rw[hz] at qg;simp only[aA,ak] at qu;have hl:=fun {k R} hx=>SL (l:=l) hn (q:=⟨ino,nodes,bytes⟩) (t:=t) (k:=k) (R:=R) hx ([],decide (nodes<0)) (Nat.le_refl 0)
 simp only[ak,an,List.map_nil,List.length_nil] at hl
 have hneg:decide (nodes<0) = !decide (0<=nodes):=by
  rw[Bool.eq_iff_iff]; simp
 have sh:(0<=nodes->n<0->l.length<16)->iH (jy ⟨ino,nodes,bytes⟩ l (decide (nodes<0)))/\(jy ⟨ino,nodes,bytes⟩ l (decide (nodes<0))).length<=16:=by
  intro hh;rcases Int.lt_or_le nodes 0 with h|h
  ·rw[decide_eq_true h,ry];exact⟨hq.filter _,Nat.le_trans (List.length_filter_le _ _) hn⟩
  ·rw[decide_eq_false (Int.not_lt.2 h)];obtain⟨g1,_,g3,g4⟩:=yO ⟨ino,nodes,bytes⟩ l hq;refine⟨g1,?_⟩;rcases Int.lt_or_le n 0 with h'|h'
   ·have:=hh h h'; omega
   ·exact Nat.le_trans (g4 (hf h')) hn
 cases h1:(find t.nodes ino).isSome<;>rw[h1] at qg qd
 ·refine⟨l,70,ai ?_,hq,hn⟩;simp only[qe,vC,aA,ak,aF,an,qg,EW,simprocAttr]
 cases h2:(aD t.nodes ino).kind==2<;>rw[h2] at qd<;>simp only[Bool.and_self,Bool.and_false] at qd
 ·refine⟨l,73,ai ?_,hq,hn⟩;simp only[qe,vC,aA,ak,aF,an,qg,qd,EW,simprocAttr]
 cases h3:decide (0<=nodes)
 case' true =>
  cases h4:decide (nodes<a)
  case true =>
   refine⟨l,90,ai ?_,hq,hn⟩;simp only[qe,vC,aA,ak,aF,an,qg,qd,qu,qf,h3,hneg,h4,EW,simprocAttr]
  cases h5:decide (bytes<b)
  case true =>
   refine⟨l,90,ai ?_,hq,hn⟩;simp only[qe,vC,aA,ak,aF,an,qg,qd,qu,qf,h3,hneg,h4,h5,EW,simprocAttr]
  cases h6:decide (n<0)
  case' true =>
   cases h7:decide (16<=(l.length:Int))
   case true =>
    refine⟨l,76,ai ?_,hq,hn⟩;simp only[qe,vC,aA,ak,aF,an,qg,qd,qu,qf,h3,hneg,h4,h5,h6,h7,EW,simprocAttr]
 all_goals
  obtain⟨s1,s2⟩:=sh (by intro g1 g2; simp only[decide_eq_true_eq,decide_eq_false_iff_not] at *; omega)
  refine⟨_,0,ai ?_,s1,s2⟩;rw[hneg,h3] at hl
  first
   |simp only[qe,vC,aA,ak,aF,an,qg,qd,qu,qf,h3,hneg,h4,h5,h6,h7,EW,simprocAttr]
   |simp only[qe,vC,aA,ak,aF,an,qg,qd,qu,qf,h3,hneg,h4,h5,h6,EW,simprocAttr]
   |simp only[qe,vC,aA,ak,aF,an,qg,qd,qu,qf,h3,hneg,EW,simprocAttr]
  refine(hl (R:=fun m=>some (.tuple [a8 m,.int .i64 0],([]:aj))) (fun out d z ho=>?_)).trans (by first|rfl|(rw[hneg,h3]; rfl))
  have r1:aP (out.length+1) 24=True:=jx;cases d<;>simp only[vC,r1,jy,bz,cZ,List.map_append,Bool.false_eq_true,if_true,if_false,EW,simprocAttr]
  all_goals simp[bz,cZ]
end
def gY(c h:Int):List bI->Nat->Int
 | [],_ => -1
 |x::r,i=>if (x.aV==c&&x.handle==h)=true then i else gY c h r (i+1)
def rq(l:List bI)(c h:Int):Int:=gY c h l 0
def jS(c h:Int):∀(l:List bI)(i:Nat),(gY c h l i = -1/\∀x,x∈l->(x.aV==c&&x.handle==h)=false) \/
  ∃(m:Nat) (x:bI),gY c h l i=((i+m:Nat):Int)/\l[m]?=some x/\(x.aV==c&&x.handle==h)=true
 | [],i => .inl ⟨rfl,by simp⟩
 |x::r,i=>by
  rw[gY];cases hx:x.aV==c&&x.handle==h
  ·rcases jS c h r (i+1) with ⟨h1,h2⟩|⟨m,y,h1,h2,h3⟩
   ·exact .inl ⟨by simpa using h1,fun y hy=>by rcases List.mem_cons.1 hy with rfl|hy; exact hx; exact h2 y hy⟩
   ·exact .inr ⟨m+1,y,by simp only[Bool.false_eq_true,if_false,h1]; congr 1; omega,by simpa using h2,h3⟩
  ·exact .inr ⟨0,x,by simp,rfl,hx⟩
def ye(l:List bI)(ino:Int):Int:=((l.countP fun x=>x.ino==ino:Nat):Int)
def oe(c h:Int)(x:bI):Bool:=decide (x.aV<c)||(x.aV==c&&decide (x.handle<h))
def mh(t:Tree)(l:List bI)(c h ino:Int):List bI×Int :=
 if (decide (c<0)||(decide (16<=c)||(decide (h<0)||decide (99<h))))=true then (l,1)
 else if (!(find t.nodes ino).isSome||gM (aD t.nodes ino))=true then (l,70)
 else if ((aD t.nodes ino).kind==2)=true then (l,72)
 else if decide (0<=rq l c h)=true then (l,71)
 else if decide (64<=(l.length:Int))=true then (l,76)
 else (l.take (fm (oe c h) l)++⟨c,h,ino⟩::l.drop (fm (oe c h) l),0)
def Hp(c h:Int):(fun x=>decide (cM x c h<0))=oe c h:=by
 funext x;rw[Bool.eq_iff_iff];simp only[oe,decide_eq_true_eq,jH,Bool.or_eq_true,Bool.and_eq_true,beq_iff_eq]
def Po{t:Tree}{l:List bI}(hl:ko l)(hn:l.length<=64)(c g ino:Int):ko (mh t l c g ino).1/\(mh t l c g ino).1.length<=64:=by
 have h0:=Cc (t:=t) hl hn c g ino;unfold mh;split
 ·exact⟨hl,hn⟩
 rename_i h1;split
 ·exact⟨hl,hn⟩
 rename_i h2;split
 ·exact⟨hl,hn⟩
 rename_i h3;split
 ·exact⟨hl,hn⟩
 rename_i h4;split
 ·exact⟨hl,hn⟩
 rename_i h5
 have k1:¬(!BR c g)=true:=by
  simp only[Bool.or_eq_true,decide_eq_true_eq,not_or,BR,Bool.not_eq_true',Bool.and_eq_false_iff,decide_eq_false_iff_not,Classical.not_not] at h1 ⊢;omega
 have k2:¬j4 (fun x=>cM x c g==0) l (fm (fun x=>decide (cM x c g<0)) l)=true:=by
  intro hk;unfold j4 at hk;split at hk
  ·rename_i z hz
   have hz':(z.aV==c&&z.handle==g)=true:=by
    have:=(wy z c g).1 (by simpa using hk)
    simp[this.1,this.2]
   rcases jS c g l 0 with ⟨_,h6⟩|⟨m,_,h6,_⟩
   ·have:=h6 z (List.mem_of_getElem? hz);rw[hz'] at this; cases this
   ·apply h4;unfold rq;rw[h6];simp
  ·cases hk
 unfold lH at h0;rw[if_neg k1,if_neg h2,if_neg h3,if_neg k2,if_neg h5,Hp] at h0;exact h0
def HJ{t:Tree}(ht:∀i n,find t.nodes i=some n->n.kind=1\/n.kind=2)(l:List bI)(c g ino:Int){y:bI}(hy:y∈(mh t l c g ino).1):y∈l\/∃n,find t.nodes y.ino=some n/\n.kind=1:=by
 unfold mh at hy;split at hy
 ·exact .inl hy
 split at hy
 ·exact .inl hy
 rename_i h2;split at hy
 ·exact .inl hy
 rename_i h3;split at hy
 ·exact .inl hy
 split at hy
 ·exact .inl hy
 rcases List.mem_append.1 hy with hy|hy
 ·exact .inl (List.mem_of_mem_take hy)
 rcases List.mem_cons.1 hy with rfl|hy
 ·right;simp only[Bool.or_eq_true,not_or,Bool.not_eq_true',Bool.not_eq_false] at h2;obtain⟨n,hn⟩:=Option.isSome_iff_exists.1 h2.1;refine⟨n,hn,?_⟩;have hnn:aD t.nodes ino=n:=by simp[aD,hn]
  rw[hnn] at h3;rcases ht _ _ hn with h|h
  ·exact h
  ·simp[h] at h3
 ·exact .inl (List.mem_of_mem_drop hy)
section
attribute [local irreducible] bS cz fu gK bG kr ag ar aQ aG
def ajT(l:List bI)(c h:Int)(hn:l.length<=100000):ag aH 185 [cj l,.int .i64 c,.int .i64 h] []=some (.int .i64 (rq l c h),[]):=by
 refine ai ?_;have e0:rq l c h=gY c h l (l.length-l.length):=by rw[Nat.sub_self]; rfl
 rw[e0];simp only[Kh,Vv,EW,simprocAttr];refine mD (xs:=l) (by omega) (fun post (_:Unit)=>gY c h post (l.length-post.length)) (fun _ i=>[(0,cj l),(1,.int .i64 c),(2,.int .i64 h),(7,.int .i64 i)]) (fun _=>[]) (fun n=>some (ae.int .i64 n,([]:aj))) (fun _=>?_) (fun pre x post _ e hx hlt hw h0 hm hi=>?_) ()
 ·simp only[Vv,Int.lt_irrefl,gY,EW,simprocAttr]
 ·have i1:=hi ();have e1:l.length-(x::post).length=pre.length:=by rw[e]; simp
  have e2:l.length-post.length=pre.length+1:=by rw[e]; simp; omega
  rw[e2] at i1;rw[e1,gY];cases h1:x.aV==c<;>cases h2:x.handle==h<;>simp only[Vv,hlt,hx,hw,h0,h1,h2,cF,df,Bool.and_false,Bool.true_and,Bool.false_and,Bool.false_eq_true,if_false,if_true,EW,simprocAttr]<;>exact i1
def Xl l c h hn:=cP (ajT l c h hn)
def ajV(l:List bI)(ino:Int)(hn:l.length<=100000):ag aH 189 [cj l,.int .i64 ino] []=some (.int .i64 (ye l ino),[]):=by
 refine ai ?_;simp only[Kj,QE,EW,simprocAttr];refine(E2 (xs:=l) (by omega) (fun m n=>n<=m) (fun post (n:Nat)=>((n+post.countP fun x=>x.ino==ino:Nat):Int)) (fun n i=>[(0,cj l),(1,.int .i64 ino),(5,.int .i64 n),(6,.int .i64 i)]) (fun _=>[]) (fun n=>some (ae.int .i64 n,([]:aj))) (fun n _=>?_) (fun pre x post n e hx hlt hw h0 hm hI hi=>?_) 0 (by omega)).trans (by simp[ye])
 ·simp only[QE,Int.lt_irrefl,List.countP_nil,EW,simprocAttr]
 ·have i1:=hi n (by omega)
  have i2:=hi (n+1) (by omega)
  have hl:=(List.getElem?_eq_some_iff.1 hx).1;have w1:IntKind.i64.wrap ((n:Int)+1)=((n+1:Nat):Int):=by rw[cL (by omega) (by omega)]; rfl
  cases h1:x.ino==ino
  ·simp only[List.countP_cons,h1,Bool.false_eq_true,if_false,Nat.add_zero] at i1 ⊢;simp only[QE,hlt,hx,hw,h0,h1,cF,df,EW,simprocAttr];exact i1
  ·have e2:n+(List.countP (fun x=>x.ino==ino) (x::post))=n+1+List.countP (fun x=>x.ino==ino) post:=by simp only[List.countP_cons,h1,if_true]; omega
   simp only[e2];simp only[QE,hlt,hx,hw,w1,h0,h1,cF,df,EW,simprocAttr];exact i2
def alw l ino hn:=cP (ajV l ino hn)
def ajS(t:Tree)(ino:Int)(ht:t.nodes.length<=100000):ag aH 184 [aA t,.int .i64 ino] []=some (.bool ((find t.nodes ino).isSome&&gM (aD t.nodes ino)),[]):=by
 refine ai ?_;have q:=fun M=>tP t.nodes t.next t.af ino ht M
 have hz:(find t.nodes ino).getD Node.zero=aD t.nodes ino:=rfl;rw[hz] at q;unfold gM;generalize aD t.nodes ino=n at q
 cases h1:(find t.nodes ino).isSome<;>rw[h1] at q<;>cases h2:n.kind==1<;>cases h3:n.bE==0 <;>
  simp only[Kg,ah6,aA,ak,q,h2,h3,aF,an,Bool.and_false,Bool.true_and,Bool.false_and,EW,simprocAttr]
def ad9(nodes:List Node)(next af ino:Int)(h:nodes.length<=100000)(M:aj):ar (ag aH) 184 [.agg [au nodes,.int .i64 next,.int .i64 af],.int .i64 ino] M=some (.bool ((find nodes ino).isSome&&gM (aD nodes ino)),M) :=
 cO (ajS ⟨nodes,next,af⟩ ino h) M
end
end Go.Proofs.YtahkjijkflobhaaGreatDoor
