import Derived.KernelRfl
import Derived.Test.YtahkjijkflobhaaGreatDoorFseE
set_option linter.unusedSimpArgs false
set_option linter.unusedVariables false
set_option linter.unusedSectionVars false
set_option linter.defProp false
namespace Go.Proofs.YtahkjijkflobhaaGreatDoor
open Go Go.Abs
section
attribute [local irreducible] bS cz fu gK bG kr ag ar aQ aG
def Xj(nodes:List Node)(next af ino:Int)(s:Bytes)(ht:Small ⟨nodes,next,af⟩)(M:aj):ar (ag aH) 178 [.agg [au nodes,.int .i64 next,.int .i64 af],.int .i64 ino,.str s] M =
  some (.agg [au (bm nodes ino s),.int .i64 next,.int .i64 af],M):=cO (ajM ⟨nodes,next,af⟩ ino s ht) M
def SV{T:List ae}{n:Node}{e:ct}(hn:n.av.length<=100000){k:List K}{R:List ct->Bool->Option (ae×aj)}
  (hx:∀out done v q,out.length<=300000->kr (ag aH) [.bl 8 3] 0 k ⟨.exit 0,[(2,.str e.name),(4,.ptr 0 0),(8,.ptr 1 0),(9,.ptr 2 0),(11,.ptr 3 0),(12,.slice (.own 4) (out.map cn)),(13,.bool done),(14,v),(30,q)],[.cells T,.cells zT,.cells (an n),.cells (bU e),.tick 3 out.length]⟩=R out done)
  (hT:∀B M,T.map (ae.eH B M)=T) :
  ∀(l pre out:List ct)(done:Bool),n.av=pre++l->out.length+2*l.length<=300000->bS (ag aH) [.bl 8 3] 0 k (.loop [2,4,8,9,11,12,13,14] R8) [(2,.str e.name),(4,.ptr 0 0),(8,.ptr 1 0),(9,.ptr 2 0),(11,.ptr 3 0),(12,.slice (.own 4) (out.map cn)),(13,.bool done),(14,.int .i64 pre.length)] [.cells T,.cells zT,.cells (an n),.cells (bU e),.tick 3 out.length]=R (nb e l out done).1 (nb e l out done).2:=by
 intro l;induction l with
 |nil =>
  intro pre out done h ho;rw[aC];simp only[ze,an,cT,cQ h,EN,simprocAttr];exact hx _ _ _ _ (by simp at ho; omega)
 |cons m r ih =>
  intro pre out done h ho;rw[aC];have hlen:pre.length+1<=100000:=by rw[h] at hn; simp at hn; omega
  have hw:=ny pre m;have hi:=fun out done ho=>ih (pre++[m]) out done (by rw[h]; simp) ho
  simp only[List.length_cons] at ho;have r1:aP (out.length+1) 32=True:=jx;have r2:aP (out.length+1+1) 32=True:=jx;have hg:(!(strLt m.name e.name||m.name==e.name))=US m.name e.name:=rfl
  rw[nb];simp only[ze,hg,an,cT,cv h,bT h,bU,hT,zT,EN,simprocAttr]
  repeat' ((first|refine aB (fun hb=>?_) (fun hb=>?_)|refine aJ (fun hb=>?_) (fun hb=>?_)|refine bp (fun hb=>?_) (fun hb=>?_))<;>simp only[hb,EN,ze,bT h,hw,r1,r2,bU,hT,zT,hg,simprocAttr])
  all_goals try simp only[ze,bT h,hw,r1,r2,bU,hT,zT,hg,EN,simprocAttr]
  all_goals first
   |(refine Eq.trans ?_ ((hi (out++[e]++[m]) true (by simp; omega)).trans ?_)
     ·simp only[List.map_append,List.map_cons,List.map_nil,List.length_append,List.length_cons,List.length_nil]; rfl
     ·clear hi ih hx hw h hT hg; simp_all; done)
   |(refine Eq.trans ?_ ((hi (out++[m]) done (by simp; omega)).trans ?_)
     ·simp only[List.map_append,List.map_cons,List.map_nil,List.length_append,List.length_cons,List.length_nil]; rfl
     ·clear hi ih hx hw h hT hg; simp_all; done)
def ajI(t:Tree)(ino:Int)(s:Bytes)(of:Int)(ht:Small t):ag aH 174 [aA t,.int .i64 ino,.str s,.int .i64 of] []=some (aA (cW t ino s of),[]):=by
 refine ai ?_;have hd:=xZ ht ino;unfold cW;simp only[J7,ze,aA,ak,tP,ht.nodes,aF,EN,simprocAttr];generalize (find t.nodes ino).getD Node.zero=n at hd ⊢;simp only[ze,an,EN,simprocAttr];refine(SV (e:=⟨s,of,t.af⟩) (R:=fun out done=>some (aA ⟨bJ t.nodes { n with av:=out++(if done=true then [] else [⟨s,of,t.af⟩]) },t.next,fO (t.af+1)⟩,[])) hd (fun out done v e ho=>?_) (fun B M=>by simp only[ze,EN,simprocAttr]) n.av [] [] false rfl (by simp; omega)).trans (by simp[aA,ak,ra])
 have r1:aP (out.length+1) 32=True:=jx;cases done
 ·simp only[ze,zT,an,bU,r1,Tw,zE,ht.nodes,EN,simprocAttr];simp[aA,ak]
 ·simp only[ze,zT,an,bU,r1,zE,ht.nodes,EN,simprocAttr];simp[aA,ak]
def RJ(nodes:List Node)(next af ino:Int)(s:Bytes)(of:Int)(ht:Small ⟨nodes,next,af⟩)(M:aj):ar (ag aH) 174 [.agg [au nodes,.int .i64 next,.int .i64 af],.int .i64 ino,.str s,.int .i64 of] M =
  some (aA (cW ⟨nodes,next,af⟩ ino s of),M):=cO (ajI ⟨nodes,next,af⟩ ino s of ht) M
def S0{t:Tree}(ht:t.nodes.length<=100000){k:List K}{R:Nat->Option (ae×aj)}
  (hx:∀(d:Nat) v q,kr (ag aH) [.tmp 4] 0 k ⟨.exit 0,[(1,v),(2,.ptr 0 0),(5,.int .i64 d),(13,q)],[.cells (ak t)]⟩=R d) :
  ∀(m:Nat)(ino:Int)(d:Nat),d+m=201->bS (ag aH) [.tmp 4] 0 k (.loop [1,2,5] Sf) [(1,.int .i64 ino),(2,.ptr 0 0),(5,.int .i64 d)] [.cells (ak t)]=R (nI t.nodes m ino d):=by
 intro m;induction m with
 |zero =>
  intro ino d hd;rw[aC];have hd':((d:Int)<=200)=False:=by simp; omega
  simp only[CT,EN,simprocAttr]
  repeat' ((first|refine aB (fun hb=>?_) (fun hb=>?_)|refine aJ (fun hb=>?_) (fun hb=>?_)|refine bp (fun hb=>?_) (fun hb=>?_))<;>simp only[hb,EN,CT,hd',simprocAttr])
  all_goals exact hx _ _ _
 |succ m ih =>
  intro ino d hd;rw[aC];have hd':((d:Int)<=200)=True:=by simp; omega
  have hw:IntKind.i64.wrap ((d:Int)+1)=((d+1:Nat):Int):=by rw[cL (by omega) (by omega)]; rfl
  have hi:=fun ino=>ih ino (d+1) (by omega)
  rw[nI];simp only[CT,EN,simprocAttr];refine aJ (fun hb=>?_) (fun hb=>?_)
  ·simp only[CT,hb,hd',hw,ak,tP,ht,aF,an,EN,simprocAttr];have h1:¬ino=1:=by simpa using hb
   rw[if_neg h1];exact hi _
  ·simp only[CT,hb,hd',hw,ak,tP,ht,aF,an,EN,simprocAttr];have h1:ino=1:=by simpa using hb
   rw[if_pos h1];exact hx _ _ _
def ajQ(t:Tree)(ino:Int)(ht:t.nodes.length<=100000):ag aH 182 [aA t,.int .i64 ino] []=some (.int .i64 (gU t.nodes ino),[]):=by
 refine ai ?_;simp only[Ke,CT,aA,EN,simprocAttr];exact S0 (R:=fun(d:Nat)=>some (.int .i64 d,[])) ht (fun d v q=>by simp only[CT,EN,simprocAttr]) 201 ino 0 rfl
def Hj(nodes:List Node)(next af ino:Int)(h:nodes.length<=100000)(M:aj):ar (ag aH) 182 [.agg [au nodes,.int .i64 next,.int .i64 af],.int .i64 ino] M=some (.int .i64 (gU nodes ino),M) :=
 cO (ajQ ⟨nodes,next,af⟩ ino h) M
def akt(t:Tree)(n:Node)(ht:Small t):ag aH 246 [aA t,aF n] []=some (.bool (wm t n),[]):=by
 refine ai ?_;simp only[KX,aaG,aA,ak,aF,an,Hj,ht.nodes,EN,simprocAttr];unfold wm
 repeat' ((first|refine aB (fun hb=>?_) (fun hb=>?_)|refine aJ (fun hb=>?_) (fun hb=>?_)|refine bp (fun hb=>?_) (fun hb=>?_))<;>simp only[hb,EN,aaG,Hj,ht.nodes,simprocAttr])
 all_goals simp_all
def alG(nodes:List Node)(next af a b c:Int)(d:Bytes)(e:List ct)(u:Int)(h:Small ⟨nodes,next,af⟩)(M:aj):ar (ag aH) 246 [.agg [au nodes,.int .i64 next,.int .i64 af],.agg [.int .i64 a,.int .i64 b,.int .i64 c,bc d,cT e,.int .i64 u]] M =
  some (.bool (wm ⟨nodes,next,af⟩ ⟨a,b,c,d,e,u⟩),M):=cO (akt ⟨nodes,next,af⟩ ⟨a,b,c,d,e,u⟩ h) M
def ajH(t:Tree)(ino:Int)(s:Bytes)(ht:Small t)(hs:s.length<=100000):ag aH 173 [aA t,.int .i64 ino,.str s] []=some (.int .i64 (gz t ino s),[]):=by
 refine ai ?_;have hd:=kU ht ino;have ht':Small ⟨t.nodes,t.next,t.af⟩:=ht
 simp only[J6,zd,aA,ak,RM,ht.nodes,aF,an,EN,simprocAttr];unfold gz;refine aB (fun hb=>?_) (fun hb=>?_)
 ·simp only[zd,EN,simprocAttr];simp_all
 ·simp only[zd,k97,hs,EN,simprocAttr];refine aB (fun hb'=>?_) (fun hb'=>?_)
  ·simp only[zd,EN,simprocAttr];simp_all
  ·simp only[zd,Xk,hd,EN,simprocAttr];rcases kH s (cK t.nodes ino).1.av 0 with ⟨h1,h2⟩|⟨m,n,h1,h2,h3⟩
   ·rw[h2];simp only[zd,alG,ht',EN,simprocAttr];refine aB (fun hb''=>?_) (fun hb''=>?_)
    ·simp only[zd,EN,simprocAttr];simp_all
    ·simp only[zd,EN,simprocAttr];simp_all
   ·rw[h3];simp only[zd,EN,simprocAttr];simp_all
def Xh(nodes:List Node)(next af ino:Int)(s:Bytes)(ht:Small ⟨nodes,next,af⟩)(hs:s.length<=100000)(M:aj):ar (ag aH) 173 [.agg [au nodes,.int .i64 next,.int .i64 af],.int .i64 ino,.str s] M =
  some (.int .i64 (gz ⟨nodes,next,af⟩ ino s),M):=cO (ajH ⟨nodes,next,af⟩ ino s ht hs) M
def ad6(nodes:List Node)(next af a b c u:Int)(h:nodes.length<=100000)(M:aj):ar (ag aH) 175 [.agg [au nodes,.int .i64 next,.int .i64 af],.agg [.int .i64 a,.int .i64 b,.int .i64 c,.slice .sh [],.slice .sh [],.int .i64 u]] M =
  some (.agg [au (bJ nodes ⟨a,b,c,[],[],u⟩),.int .i64 next,.int .i64 af],M):=zE nodes next af a b c [] [] u h M
def HW{t:Tree}(hz:Sz 1000 t)(k u next af a c:Int):Small ⟨bJ t.nodes ⟨a,k,c,[],[],u⟩,next,af⟩:=(hz.with (by simp) (by simp) next af).small (by omega)
set_option maxHeartbeats 1000000 in
def aiT(t:Tree)(ino:Int)(s:Bytes)(kind:Int)(hz:Sz 1000 t)(hs:s.length<=100000):ag aH 106 [aA t,.int .i64 ino,.str s,.int .i64 kind] []=some (.tuple [aA (kf t ino s kind).1,.int .i64 (kf t ino s kind).2.1,.int .i64 (kf t ino s kind).2.2],[]):=by
 obtain⟨nodes,next,af⟩:=t
 refine ai ?_;have ht:Small ⟨nodes,next,af⟩:=hz.small (by omega)
 have hn:nodes.length<=100000:=ht.nodes;have hw:=fun k u next' cookie' a c=>HW hz k u next' cookie' a c
 simp only[Jw,aao,aA,ak,Xh,ht,hs,EN,simprocAttr]
 repeat' ((first|refine aB (fun hb=>?_) (fun hb=>?_)|refine aJ (fun hb=>?_) (fun hb=>?_)|refine bp (fun hb=>?_) (fun hb=>?_))<;>simp only[hb,EN,aao,Xh,ht,hs,hn,ad6,RJ,hw,aA,ak,simprocAttr])
 all_goals (clear hw; simp_all only[kf,aA,ak,iw,↓reduceIte,reduceCtorEq,bne_self_eq_false]; done)
end
section
attribute [local irreducible] bS cz fu gK bG kr ag ar aQ aG
def YV{t:Tree}{of:Int}(ht:t.nodes.length<=100000){k:List K}{R:Bool->Option (ae×aj)}
  (hx:∀e,kr (ag aH) [.tmp 6] 0 k ⟨.exit 0,e,[.cells (ak t)]⟩=R false) (hr:∀b,kr (ag aH) [.tmp 6] 0 k ⟨.ret,[(6,.bool b)],[.cells (ak t)]⟩=R b) :
  ∀(m:Nat)(ino:Int)(d:Nat),d+m=t.nodes.length+1->bS (ag aH) [.tmp 6] 0 k (.loop [1,2,3,7] YA) [(1,.int .i64 ino),(2,.int .i64 of),(3,.ptr 0 0),(7,.int .i64 d)] [.cells (ak t)]=R (fD t.nodes of m ino):=by
 intro m;induction m with
 |zero =>
  intro ino d hd;rw[aC];have hd':((d:Int)<=(t.nodes.length:Int))=False:=by simp; omega
  simp only[QO,ak,au,hd',EN,simprocAttr];exact hx _
 |succ m ih =>
  intro ino d hd;rw[aC];have hd':((d:Int)<=(t.nodes.length:Int))=True:=by simp; omega
  have hw:IntKind.i64.wrap ((d:Int)+1)=((d+1:Nat):Int):=by rw[cL (by omega) (by omega)]; rfl
  have hi:=fun ino=>ih ino (d+1) (by omega)
  rw[fD];simp only[QO,ak,au,hd',EN,simprocAttr];refine aB (fun hb=>?_) (fun hb=>?_)
  ·have h1:ino=of:=by simpa using hb
   simp only[QO,EN,simprocAttr];rw[if_pos h1];exact hr _
  ·have h1:¬ino=of:=by simpa using hb
   simp only[QO,EN,simprocAttr];rw[if_neg h1];refine aB (fun hb=>?_) (fun hb=>?_)
   ·have h1:ino=1:=by simpa using hb
    simp only[QO,EN,simprocAttr];rw[if_pos h1];exact hr _
   ·have h1:¬ino=1:=by simpa using hb
    simp only[QO,hw,tP,ht,aF,an,EN,simprocAttr];rw[if_neg h1];exact hi _
def c39(t:Tree)(ino of:Int)(ht:t.nodes.length<=100000):ag aH 39 [aA t,.int .i64 ino,.int .i64 of] []=some (.bool (ei t.nodes ino of),[]):=by
 refine ai ?_;simp only[WJ,QO,aA,EN,simprocAttr];exact YV (R:=fun b=>some (.bool b,[])) ht (fun e=>by simp only[QO,EN,simprocAttr]) (fun b=>by simp only[QO,EN,simprocAttr]) (t.nodes.length+1) ino 0 (by omega)
def k39(nodes:List Node)(next af ino of:Int)(h:nodes.length<=100000)(M:aj):ar (ag aH) 39 [.agg [au nodes,.int .i64 next,.int .i64 af],.int .i64 ino,.int .i64 of] M=some (.bool (ei nodes ino of),M) :=
 cO (c39 ⟨nodes,next,af⟩ ino of h) M
end
section
attribute [local irreducible] bS cz fu gK bG kr ag ar aQ aG
def ak9(nodes:List Node)(next af ino:Int)(s:Bytes)(kind:Int)(hz:Sz 1000 ⟨nodes,next,af⟩)(hs:s.length<=100000)(M:aj):ar (ag aH) 106 [.agg [au nodes,.int .i64 next,.int .i64 af],.int .i64 ino,.str s,.int .i64 kind] M =
  some (.tuple [aA (kf ⟨nodes,next,af⟩ ino s kind).1,.int .i64 (kf ⟨nodes,next,af⟩ ino s kind).2.1,.int .i64 (kf ⟨nodes,next,af⟩ ino s kind).2.2],M):=cO (aiT ⟨nodes,next,af⟩ ino s kind hz hs) M
def aiS(t:Tree)(ino to:Int)(s:Bytes)(hz:Sz 1000 t)(hs:s.length<=100000):ag aH 104 [aA t,.int .i64 ino,.int .i64 to,.str s] []=some (.tuple [aA (wL t ino to s).1,.int .i64 (wL t ino to s).2],[]):=by
 obtain⟨nodes,next,af⟩:=t
 refine ai ?_;have ht:Small ⟨nodes,next,af⟩:=hz.small (by omega)
 have hn:nodes.length<=100000:=ht.nodes;have hf:=hz.find ino;have hw':∀l,Small ⟨bJ nodes { aD nodes ino with bE:=l },next,af⟩:=fun l=>(hz.with (n:={ aD nodes ino with bE:=l }) (Nat.le_succ_of_le hf.1) hf.2 next af).small (by omega)
 simp only[Jv,aan,aA,ak,tP,hn,aF,an,EN,simprocAttr]
 repeat' ((first|refine aB (fun hb=>?_) (fun hb=>?_)|refine aJ (fun hb=>?_) (fun hb=>?_)|refine bp (fun hb=>?_) (fun hb=>?_))<;>simp only[hb,EN,aan,Xh,ht,hs,hn,zE,RJ,hw',aA,ak,simprocAttr])
 all_goals (clear hw' hf; simp_all only[wL,aA,ak,iw,↓reduceIte,reduceCtorEq,bne_self_eq_false]; done)
def ak8(nodes:List Node)(next af ino to:Int)(s:Bytes)(hz:Sz 1000 ⟨nodes,next,af⟩)(hs:s.length<=100000)(M:aj):ar (ag aH) 104 [.agg [au nodes,.int .i64 next,.int .i64 af],.int .i64 ino,.int .i64 to,.str s] M =
  some (.tuple [aA (wL ⟨nodes,next,af⟩ ino to s).1,.int .i64 (wL ⟨nodes,next,af⟩ ino to s).2],M):=cO (aiS ⟨nodes,next,af⟩ ino to s hz hs) M
def ajL(t:Tree)(ino:Int)(ht:Small t):ag aH 177 [aA t,.int .i64 ino] []=some (aA ⟨bV t.nodes ino,t.next,t.af⟩,[]):=by
 obtain⟨nodes,next,af⟩:=t
 refine ai ?_;have hn:nodes.length<=100000:=ht.nodes;simp only[J9,aaz,aA,ak,tP,hn,aF,an,EN,simprocAttr]
 repeat' ((first|refine aB (fun hb=>?_) (fun hb=>?_)|refine aJ (fun hb=>?_) (fun hb=>?_)|refine bp (fun hb=>?_) (fun hb=>?_))<;>simp only[hb,EN,aaz,hn,zE,aeq,aA,ak,simprocAttr])
 all_goals (simp_all only[bV,aA,ak,iw,↓reduceIte,reduceCtorEq,bne_self_eq_false]; done)
def Xi(nodes:List Node)(next af ino:Int)(ht:Small ⟨nodes,next,af⟩)(M:aj):ar (ag aH) 177 [.agg [au nodes,.int .i64 next,.int .i64 af],.int .i64 ino] M =
  some (.agg [au (bV nodes ino),.int .i64 next,.int .i64 af],M):=cO (ajL ⟨nodes,next,af⟩ ino ht) M
def aiU(t:Tree)(ino:Int)(s:Bytes)(hz:Sz 1000 t)(hs:s.length<=100000):ag aH 107 [aA t,.int .i64 ino,.str s] []=some (.tuple [aA (vo t ino s).1,.int .i64 (vo t ino s).2.1,.int .i64 (vo t ino s).2.2],[]):=by
 obtain⟨nodes,next,af⟩:=t
 refine ai ?_;have ht:Small ⟨nodes,next,af⟩:=hz.small (by omega)
 have hn:nodes.length<=100000:=ht.nodes;have hl:Small ⟨bm nodes ino s,next,af⟩:=(hz.left ino s next af).small (by omega)
 simp only[Jy,aap,aA,ak,RG,ht,hs,aF,an,EN,simprocAttr]
 repeat' ((first|refine aB (fun hb=>?_) (fun hb=>?_)|refine aJ (fun hb=>?_) (fun hb=>?_)|refine bp (fun hb=>?_) (fun hb=>?_))<;>simp only[hb,EN,aap,hn,ht,hs,tP,Xj,Xi,hl,aF,an,aA,ak,simprocAttr])
 all_goals (simp_all only[vo,aA,ak,iw,↓reduceIte,reduceCtorEq,bne_self_eq_false]; done)
def ala(nodes:List Node)(next af ino:Int)(s:Bytes)(hz:Sz 1000 ⟨nodes,next,af⟩)(hs:s.length<=100000)(M:aj):ar (ag aH) 107 [.agg [au nodes,.int .i64 next,.int .i64 af],.int .i64 ino,.str s] M =
  some (.tuple [aA (vo ⟨nodes,next,af⟩ ino s).1,.int .i64 (vo ⟨nodes,next,af⟩ ino s).2.1,.int .i64 (vo ⟨nodes,next,af⟩ ino s).2.2],M):=cO (aiU ⟨nodes,next,af⟩ ino s hz hs) M
def ajP(t:Tree)(x:Node)(y:Int)(ht:Small t):ag aH 181 [aA t,aF x,.int .i64 y] []=some (.int .i64 (mw t.nodes x.kind y),[]):=by
 obtain⟨nodes,next,af⟩:=t
 refine ai ?_;have hn:nodes.length<=100000:=ht.nodes;simp only[Kd,aaA,aA,ak,tP,hn,aF,an,EN,simprocAttr]
 repeat' ((first|refine aB (fun hb=>?_) (fun hb=>?_)|refine aJ (fun hb=>?_) (fun hb=>?_)|refine bp (fun hb=>?_) (fun hb=>?_))<;>simp only[hb,EN,aaA,simprocAttr])
 all_goals (simp_all only[mw,iw,↓reduceIte,reduceCtorEq,bne_self_eq_false]; done)
def ad7(nodes:List Node)(next af a b c:Int)(d:Bytes)(e:List ct)(u y:Int)(ht:Small ⟨nodes,next,af⟩)(M:aj):ar (ag aH) 181 [.agg [au nodes,.int .i64 next,.int .i64 af],.agg [.int .i64 a,.int .i64 b,.int .i64 c,bc d,cT e,.int .i64 u],.int .i64 y] M =
  some (.int .i64 (mw nodes b y),M):=cO (ajP ⟨nodes,next,af⟩ ⟨a,b,c,d,e,u⟩ y ht) M
def ai3(t:Tree)(ino:Int)(data:Bytes)(ht:Small t)(hd:data.length<=100000):ag aH 118 [aA t,.int .i64 ino,bc data] []=some (.tuple [aA (j9 t ino data).1,.int .i64 (j9 t ino data).2],[]):=by
 obtain⟨nodes,next,af⟩:=t
 refine ai ?_;have hn:nodes.length<=100000:=ht.nodes;have r1:aP data.length 1=True:=jx;simp only[JC,aas,aA,ak,tP,hn,aF,an,EN,simprocAttr]
 repeat' ((first|refine aB (fun hb=>?_) (fun hb=>?_)|refine aJ (fun hb=>?_) (fun hb=>?_)|refine bp (fun hb=>?_) (fun hb=>?_))<;>simp only[hb,EN,aas,hn,r1,zE,aA,ak,simprocAttr])
 all_goals (simp_all only[j9,aA,ak,iw,↓reduceIte,reduceCtorEq,bne_self_eq_false]; done)
def adX(nodes:List Node)(next af ino:Int)(data:Bytes)(ht:Small ⟨nodes,next,af⟩)(hd:data.length<=100000)(M:aj):ar (ag aH) 118 [.agg [au nodes,.int .i64 next,.int .i64 af],.int .i64 ino,bc data] M =
  some (.tuple [aA (j9 ⟨nodes,next,af⟩ ino data).1,.int .i64 (j9 ⟨nodes,next,af⟩ ino data).2],M):=cO (ai3 ⟨nodes,next,af⟩ ino data ht hd) M
def ajW(t:Tree)(ino:Int)(ht:Small t):ag aH 190 [aA t,.int .i64 ino] []=some (.tuple [aA (gD t ino).1,.int .i64 (gD t ino).2],[]):=by
 obtain⟨nodes,next,af⟩:=t
 refine ai ?_;have hn:nodes.length<=100000:=ht.nodes;simp only[Kk,aaB,aA,ak,tP,hn,aF,an,EN,simprocAttr]
 repeat' ((first|refine aB (fun hb=>?_) (fun hb=>?_)|refine aJ (fun hb=>?_) (fun hb=>?_)|refine bp (fun hb=>?_) (fun hb=>?_))<;>simp only[hb,EN,aaB,hn,aeq,aA,ak,simprocAttr])
 all_goals (simp_all only[gD,aA,ak,iw,↓reduceIte,reduceCtorEq,bne_self_eq_false]; done)
def aeb(nodes:List Node)(next af ino:Int)(ht:Small ⟨nodes,next,af⟩)(M:aj):ar (ag aH) 190 [.agg [au nodes,.int .i64 next,.int .i64 af],.int .i64 ino] M =
  some (.tuple [aA (gD ⟨nodes,next,af⟩ ino).1,.int .i64 (gD ⟨nodes,next,af⟩ ino).2],M):=cO (ajW ⟨nodes,next,af⟩ ino ht) M
def c48:ag aH 48 [] []=some (aA ov,[]):=by
 refine ai ?_;simp only[WM,E48,EN,simprocAttr];rfl
def k48:=cP c48
def S1{nodes:List Node}{next af ino at' d:Int}(ht:nodes.length<=100000){k:List K}{R:Int->Option (ae×aj)}
  (hx:∀most v q,kr (ag aH) [.tmp 6] 0 k ⟨.exit 0,[(1,.int .i64 ino),(2,.int .i64 at'),(3,.ptr 0 0),(7,.int .i64 most),(8,.int .i64 d),(9,v),(19,q)],[.cells (ak ⟨nodes,next,af⟩)]⟩=R most) :
  ∀(l pre:List Node)(most:Int),nodes=pre++l->bS (ag aH) [.tmp 6] 0 k (.loop [1,2,3,7,8,9] Sg) [(1,.int .i64 ino),(2,.int .i64 at'),(3,.ptr 0 0),(7,.int .i64 most),(8,.int .i64 d),(9,.int .i64 pre.length)] [.cells (ak ⟨nodes,next,af⟩)]=R (nK nodes ino at' d l most):=by
 intro l;induction l with
 |nil =>
  intro pre most h;rw[aC];simp only[It,ak,cQ h,EN,simprocAttr];exact hx _ _ _
 |cons n r ih =>
  intro pre most h;rw[aC];have hlen:pre.length+1<=100000:=by rw[h] at ht; simp at ht; omega
  have hw:=ny pre n;have hi:=fun most=>ih (pre++[n]) most (by rw[h]; simp)
  rw[nK];simp only[ak] at hi;generalize hst:jZ nodes ino at' d n most=m1;simp only[It,ak,cv h,bT h,an,EN,simprocAttr]
  repeat' ((first|refine aB (fun hb=>?_) (fun hb=>?_)|refine aJ (fun hb=>?_) (fun hb=>?_)|refine bp (fun hb=>?_) (fun hb=>?_))<;>simp only[hb,EN,It,hw,k39,Hj,ht,an,simprocAttr])
  all_goals refine Eq.trans ?_ (hi m1)
  all_goals congr 1
  all_goals (subst hst; clear hi ih hx hw h ht; simp_all only[jZ,fO,gt_iff_lt,List.length_append,List.length_cons,List.length_nil,Nat.zero_add,iw,↓reduceIte,reduceCtorEq,bne_self_eq_false]; done)
def ajR(t:Tree)(ino at':Int)(ht:t.nodes.length<=100000):ag aH 183 [aA t,.int .i64 ino,.int .i64 at'] []=some (.int .i64 (uL t.nodes ino at'),[]):=by
 obtain⟨nodes,next,af⟩:=t
 have ht:nodes.length<=100000:=ht;refine ai ?_;simp only[Kf,It,aA,ak,Hj,ht,EN,simprocAttr];exact S1 (R:=fun z=>some (.int .i64 z,[])) ht (fun most v q=>by simp only[It,EN,simprocAttr]) nodes [] 0 rfl
def ad8(nodes:List Node)(next af ino at':Int)(h:nodes.length<=100000)(M:aj):ar (ag aH) 183 [.agg [au nodes,.int .i64 next,.int .i64 af],.int .i64 ino,.int .i64 at'] M=some (.int .i64 (uL nodes ino at'),M) :=
 cO (ajR ⟨nodes,next,af⟩ ino at' h) M
set_option maxHeartbeats 2000000 in
def aiW(t:Tree)(dZ:Int)(s:Bytes)(to:Int)(nm:Bytes)(hz:Sz 1000 t)(hs:s.length<=100000)(ha:nm.length<=100000):ag aH 109 [aA t,.int .i64 dZ,.str s,.int .i64 to,.str nm] [] =
  some (.tuple [aA (pJ t dZ s to nm).1,.int .i64 (pJ t dZ s to nm).2.1,.int .i64 (pJ t dZ s to nm).2.2],[]):=by
 obtain⟨nodes,next,af⟩:=t
 have ht:Small ⟨nodes,next,af⟩:=hz.small (by omega)
 have hn:nodes.length<=100000:=ht.nodes;have hd:(cK nodes to).1.av.length<=100000:=kU ht to;have z1:Sz 1001 ⟨bm nodes dZ s,next,af⟩:=hz.left dZ s next af
 have z2:Sz 1002 ⟨bm (bm nodes dZ s) to nm,next,af⟩:=z1.left to nm next af
 have z3:∀y,Sz 1003 ⟨bV (bm (bm nodes dZ s) to nm) y,next,af⟩:=fun y=>z2.unnamed y next af
 have hx:=hz.find (bM nodes dZ s).1;have z4:∀y,Sz 1004 ⟨bJ (bV (bm (bm nodes dZ s) to nm) y) { aD nodes (bM nodes dZ s).1 with up:=to },next,af⟩:=fun y=>(z3 y).with (n:={ aD nodes (bM nodes dZ s).1 with up:=to }) (Nat.le_trans hx.1 (by omega)) hx.2 next af
 have z5:Sz 1002 ⟨bJ (bm nodes dZ s) { aD nodes (bM nodes dZ s).1 with up:=to },next,af⟩:=z1.with (n:={ aD nodes (bM nodes dZ s).1 with up:=to }) (Nat.le_trans hx.1 (by omega)) hx.2 next af
 have s1:=z1.small (by omega)
 have s2:=z2.small (by omega)
 have s3:=fun y=>(z3 y).small (by omega)
 have s4:=fun y=>(z4 y).small (by omega)
 have s5:=z5.small (by omega)
 have n1:(bm nodes dZ s).length<=100000:=s1.nodes;have n3:∀y,(bV (bm (bm nodes dZ s) to nm) y).length<=100000:=fun y=>(s3 y).nodes
 clear z1 z2 z3 z4 z5 hx;refine ai ?_;simp only[JA,vB,aA,ak,RG,ht,hs,EN,simprocAttr];refine aB (fun hb0=>?_) (fun hb0=>?_)
 ·simp only[vB,hb0,EN,simprocAttr];clear s1 s2 s3 s4 s5 n1 n3;simp_all only[pJ,aA,ak,iw,↓reduceIte,reduceCtorEq,bne_self_eq_false]
 simp only[vB,hb0,RM,hn,aF,an,EN,simprocAttr];refine aB (fun hb1=>?_) (fun hb1=>?_)
 ·simp only[vB,hb1,EN,simprocAttr];clear s1 s2 s3 s4 s5 n1 n3;simp_all only[pJ,aA,ak,iw,↓reduceIte,reduceCtorEq,bne_self_eq_false]
 simp only[vB,hb1,k97,ha,EN,simprocAttr];refine aB (fun hb2=>?_) (fun hb2=>?_)
 ·simp only[vB,hb2,EN,simprocAttr];clear s1 s2 s3 s4 s5 n1 n3;simp_all only[pJ,aA,ak,iw,↓reduceIte,reduceCtorEq,bne_self_eq_false]
 simp only[vB,hb2,Xk,hd,EN,simprocAttr];rcases kH nm (cK nodes to).1.av 0 with ⟨h1,h2⟩|⟨m,n,h1,h2,h3⟩
 ·have hu:dr (cK nodes to).1.av nm=0:=by simp[dr,h1]
  rw[h2];simp only[vB,EN,simprocAttr]
  repeat' ((first|refine aB (fun hb=>?_) (fun hb=>?_)|refine aJ (fun hb=>?_) (fun hb=>?_)|refine bp (fun hb=>?_) (fun hb=>?_))<;>simp only[hb,EN,vB,tP,hn,ht,aF,an,k39,ad7,Hj,ad8,Xj,Xi,zE,RJ,s1,s2,s3,s4,s5,n1,n3,aA,ak,simprocAttr])
  all_goals (clear s1 s2 s3 s4 s5 n1 n3 h2; simp_all only[pJ,lB,manyN,hu,aA,ak,iw,↓reduceIte,reduceCtorEq,bne_self_eq_false]; done)
 ·have hu:dr (cK nodes to).1.av nm=n.ino:=by simp[dr,h2]
  rw[h3];simp only[vB,h1,bU,EN,simprocAttr]
  repeat' ((first|refine aB (fun hb=>?_) (fun hb=>?_)|refine aJ (fun hb=>?_) (fun hb=>?_)|refine bp (fun hb=>?_) (fun hb=>?_))<;>simp only[hb,EN,vB,tP,hn,ht,aF,an,k39,ad7,Hj,ad8,Xj,Xi,zE,RJ,s1,s2,s3,s4,s5,n1,n3,aA,ak,simprocAttr])
  all_goals (clear s1 s2 s3 s4 s5 n1 n3 h3; simp_all only[pJ,lB,manyN,hu,aA,ak,iw,↓reduceIte,reduceCtorEq,bne_self_eq_false]; done)
def alb(nodes:List Node)(next af dZ:Int)(s:Bytes)(to:Int)(nm:Bytes)(hz:Sz 1000 ⟨nodes,next,af⟩)(hs:s.length<=100000)(ha:nm.length<=100000)(M:aj):ar (ag aH) 109 [.agg [au nodes,.int .i64 next,.int .i64 af],.int .i64 dZ,.str s,.int .i64 to,.str nm] M =
  some (.tuple [aA (pJ ⟨nodes,next,af⟩ dZ s to nm).1,.int .i64 (pJ ⟨nodes,next,af⟩ dZ s to nm).2.1,.int .i64 (pJ ⟨nodes,next,af⟩ dZ s to nm).2.2],M):=cO (aiW ⟨nodes,next,af⟩ dZ s to nm hz hs ha) M
end
def j5(nodes:List Node)(i:Int):Prop:=∃n,find nodes i=some n/\n.kind=1
def Zr(nodes:List Node):Prop:=gr nodes/\¬j5 nodes 0
def KF(a b:List Node):Prop:=Zr b/\∀i,j5 a i->j5 b i
theorem KF.trans{a b c:List Node}(h:KF a b)(k:KF b c):KF a c:=⟨k.1,fun i hi=>k.2 i (h.2 i hi)⟩
def Rt.zr{t:Tree}(h:Rt t):Zr t.nodes:=by
 obtain⟨dep,g⟩:=h;exact⟨g.fN.hV,fun⟨n,h1,_⟩=>by have:=(g.num _ _ h1).1; omega⟩
def KF.refl{a:List Node}(h:Zr a):KF a a:=⟨h,fun _ hi=>hi⟩
def wC{nodes:List Node}(h:gr nodes){n:Node}(hn:j5 nodes n.ino->n.kind=1){i:Int}(hi:j5 nodes i):j5 (bJ nodes n) i:=by
 unfold j5;rw[cN h];split
 ·rename_i e; exact⟨n,rfl,hn (e▸hi)⟩
 ·exact hi
def Zr.edit{nodes:List Node}(h:Zr nodes)(d:Int){n:Node}(h1:n.ino=(aD nodes d).ino)(h2:n.kind=(aD nodes d).kind):KF nodes (bJ nodes n):=by
 have key:∀i,j5 nodes i->i=n.ino->n.kind=1:=by
  intro i hi e;cases hd:find nodes d with
  |none =>
   have:aD nodes d=Node.zero:=by simp[aD,hd]
   rw[h1,this] at e;subst e;exact absurd hi h.2
  |some m =>
   have:aD nodes d=m:=by simp[aD,hd]
   rw[this] at h1 h2;have hm:=(bh hd).2;obtain⟨x,g1,g2⟩:=hi;rw[e,h1,hm,hd] at g1;injection g1 with g1
   rw[h2,g1]; exact g2
 refine⟨⟨fA h.1 n,fun⟨x,g1,g2⟩=>?_⟩,fun i hi=>wC h.1 (fun hf=>key _ hf rfl) hi⟩
 rw[cN h.1] at g1;split at g1
 ·rename_i e;injection g1 with g1
  subst g1;cases hd:find nodes d with
  |none =>
   have:aD nodes d=Node.zero:=by simp[aD,hd]
   rw[h2,this] at g2;cases g2
  |some m =>
   have:aD nodes d=m:=by simp[aD,hd]
   rw[this] at h1 h2;have hm:=(bh hd).2;exact h.2 ⟨m,by rw[e,h1,hm]; exact hd,by rw[<-h2]; exact g2⟩
 ·exact h.2 ⟨x,g1,g2⟩
def Zr.EZ{nodes:List Node}(h:Zr nodes)(d:Int){n:Node}(h1:n.ino=(aD nodes d).ino)(h2:n.kind=(aD nodes d).kind){i:Int}(hi:j5 (bJ nodes n) i):j5 nodes i:=by
 obtain⟨x,g1,g2⟩:=hi;rw[cN h.1] at g1;split at g1
 ·rename_i e;injection g1 with g1
  subst g1;cases hd:find nodes d with
  |none =>
   have:aD nodes d=Node.zero:=by simp[aD,hd]
   rw[h2,this] at g2;cases g2
  |some m =>
   have:aD nodes d=m:=by simp[aD,hd]
   rw[this] at h1 h2;exact⟨m,by rw[e,h1,(bh hd).2]; exact hd,by rw[<-h2]; exact g2⟩
 ·exact⟨x,g1,g2⟩
def Zr.Qn{nodes:List Node}(h:Zr nodes)(k:Int){i:Int}(hi:j5 (bV nodes k) i):j5 nodes i:=by
 unfold bV at hi;split at hi
 ·obtain⟨x,g1,g2⟩:=hi;rw[gI h.1] at g1;split at g1
  ·cases g1
  ·exact⟨x,g1,g2⟩
 ·exact h.EZ k (by rfl) (by rfl) hi
def Zr.mo{nodes:List Node}(h:Zr nodes)(k:Int):Zr (db nodes k)/\∀i,j5 nodes i->i≠k->j5 (db nodes k) i:=by
 refine⟨⟨js h.1 k,fun⟨x,g1,g2⟩=>?_⟩,fun i hi hk=>?_⟩
 ·rw[gI h.1] at g1;split at g1
  ·cases g1
  ·exact h.2 ⟨x,g1,g2⟩
 ·unfold j5;rw[gI h.1,if_neg hk]; exact hi
def Zr.unnamed{nodes:List Node}(h:Zr nodes)(k:Int):KF nodes (bV nodes k):=by
 unfold bV;split
 ·rename_i hk;obtain⟨g1,g2⟩:=h.mo k;refine⟨g1,fun i hi=>g2 i hi ?_⟩
  rintro rfl;obtain⟨n,h1,h2⟩:=hi;simp[aD,h1,h2] at hk
 ·exact h.edit k rfl rfl
def sd{t:Tree}(h:Rt t)(k:Int){i:Int}(hi:j5 t.nodes i)(hk:i≠k):j5 (gD t k).1.nodes i:=by
 unfold gD
 repeat' split
 all_goals first|exact hi|exact(h.zr.mo k).2 i hi hk
def Zr.left{nodes:List Node}(h:Zr nodes)(d:Int)(s:Bytes):KF nodes (bm nodes d s):=h.edit d rfl rfl
def Zr.fR{t:Tree}(h:Zr t.nodes)(d:Int)(s:Bytes)(o:Int):KF t.nodes (cW t d s o).nodes:=h.edit d rfl rfl
def BQ{t:Tree}(h:Rt t)(d:Int)(s:Bytes)(k:Int):KF t.nodes (kf t d s k).1.nodes:=by
 have hz:=h.zr;unfold kf;split
 ·exact KF.refl hz
 split
 ·exact KF.refl hz
 split
 ·exact KF.refl hz
 ·obtain⟨dep,g⟩:=h;have h0:¬j5 t.nodes t.next:=fun⟨n,h1,_⟩=>by have:=(g.num _ _ h1).2; omega
  have h1:1<=t.next:=by
   obtain⟨r,g1,_⟩:=g.root;have:=(g.num _ _ g1).2; omega
  have hw:KF t.nodes (bJ t.nodes ⟨t.next,k,1,[],[],if (k==2)=true then d else 0⟩):=by
   refine⟨⟨fA hz.1 _,fun⟨x,g1,g2⟩=>?_⟩,fun i hi=>wC hz.1 (fun hf=>absurd hf h0) hi⟩
   rw[cN hz.1,if_neg (show ¬((0:Int)=t.next) by omega)] at g1
   exact hz.2 ⟨x,g1,g2⟩
  exact hw.trans (Zr.fR (t:=⟨_,fO (t.next+1),t.af⟩) hw.1 d s t.next)
def Fv{t:Tree}(h:Rt t)(i d:Int)(s:Bytes):KF t.nodes (wL t i d s).1.nodes:=by
 have hz:=h.zr;unfold wL;split
 ·exact KF.refl hz
 split
 ·exact KF.refl hz
 split
 ·exact KF.refl hz
 ·have hw:KF t.nodes (bJ t.nodes { aD t.nodes i with bE:=fO ((aD t.nodes i).bE+1) }):=hz.edit i rfl rfl
  exact hw.trans (Zr.fR (t:=⟨_,t.next,t.af⟩) hw.1 d s i)
def Fx{t:Tree}(h:Rt t)(d:Int)(s:Bytes):KF t.nodes (vo t d s).1.nodes:=by
 have hz:=h.zr;unfold vo;split
 ·exact KF.refl hz
 split
 ·exact KF.refl hz
 ·exact(hz.left d s).trans ((hz.left d s).1.unnamed _)
def wH{t:Tree}(h:Rt t)(i:Int)(d:Bytes):KF t.nodes (j9 t i d).1.nodes:=by
 have hz:=h.zr;unfold j9;split
 ·exact KF.refl hz
 split
 ·exact KF.refl hz
 split
 ·exact KF.refl hz
 ·exact hz.edit i rfl rfl
def Fw{t:Tree}(h:Rt t)(d:Int)(s:Bytes)(to:Int)(nm:Bytes):KF t.nodes (pJ t d s to nm).1.nodes:=by
 have hz:=h.zr;unfold pJ;split
 ·exact KF.refl hz
 split
 ·exact KF.refl hz
 split
 ·exact KF.refl hz
 split
 ·exact KF.refl hz
 split
 ·exact KF.refl hz
 split
 ·exact KF.refl hz
 split
 ·exact KF.refl hz
 ·generalize (bM t.nodes d s).1=x;generalize dr (cK t.nodes to).1.av nm=y;unfold lB;have h1:=hz.left d s
  have h2:KF t.nodes (if (y != 0)=true then bV (bm (bm t.nodes d s) to nm) y else bm t.nodes d s):=by
   split
   ·exact h1.trans ((h1.1.left to nm).trans ((h1.1.left to nm).1.unnamed y))
   ·exact h1
  split
  ·rename_i hk
   have hx:∃m,find t.nodes x=some m/\aD t.nodes x=m:=by
    cases hf:find t.nodes x with
    |none=>simp[aD,hf,Node.zero] at hk
    |some m=>exact⟨m,rfl,by simp[aD,hf]⟩
   obtain⟨m,m1,m2⟩:=hx;rw[m2] at hk ⊢;have hmi:=(bh m1).2;have hmk:m.kind=2:=by simpa using hk
   have hb:∀i,j5 (if (y != 0)=true then bV (bm (bm t.nodes d s) to nm) y else bm t.nodes d s) i->j5 t.nodes i:=by
    intro i hi;split at hi
    ·exact hz.EZ d (by rfl) (by rfl) (h1.1.EZ to (by rfl) (by rfl) ((h1.1.left to nm).1.Qn y hi))
    ·exact hz.EZ d (by rfl) (by rfl) hi
   generalize (if (y != 0)=true then bV (bm (bm t.nodes d s) to nm) y else bm t.nodes d s)=B at h2 hb
   have hw:KF B (bJ B { m with up:=to }):=by
    refine⟨⟨fA h2.1.1 _,fun⟨z,g1,g2⟩=>?_⟩,fun i hi=>wC h2.1.1 (fun hf=>?_) hi⟩
    ·rw[cN h2.1.1] at g1;split at g1
     ·injection g1 with g1
      rw[<-g1] at g2;simp only at g2;omega
     ·exact h2.1.2 ⟨z,g1,g2⟩
    ·simp only at hf;rw[hmi] at hf;obtain⟨z,g1,g2⟩:=hb _ hf;rw[m1] at g1; injection g1 with g1
     rw[<-g1] at g2;omega
   exact(h2.trans hw).trans (Zr.fR (t:=⟨_,t.next,t.af⟩) hw.1 to nm x)
  ·exact h2.trans (Zr.fR (t:=⟨_,t.next,t.af⟩) h2.1 to nm x)
section
attribute [local irreducible] bS cz fu gK bG kr ag ar aQ aG
def OQ{α:Type}(lt:α->Bool)(x:α)(l:List α):fm lt (x::l)=if lt x=true then fm lt l+1 else 0:=by
 unfold fm;rw[List.takeWhile_cons];split<;>simp
def SK{l:List bI}(hn:l.length<=100000){c h ino:Int}{t:Tree}{n:Node}{i:Nat}{k:List K}{R:Option (ae×aj)}
  (hx:∀z,kr (ag aH) [.tmp 10,.tmp 11] 0 k ⟨.exit 0,(1,cj l)::(2,.int .i64 c)::(3,.int .i64 h)::(4,.int .i64 ino)::(14,.int .i64 i)::z,[.cells (ak t),.cells (an n)]⟩=R) :
  ∀(rest pre:List bI),l=pre++rest->pre.length+fm (oe c h) rest=i->bS (ag aH) [.tmp 10,.tmp 11] 0 k (.loop [1,2,3,4,14] RV) [(1,cj l),(2,.int .i64 c),(3,.int .i64 h),(4,.int .i64 ino),(14,.int .i64 pre.length)] [.cells (ak t),.cells (an n)]=R:=by
 simp only[ak,an] at hx ⊢;intro rest;induction rest with
 |nil =>
  intro pre e hi;obtain rfl:pre.length=i:=by simpa[fm] using hi
  rw[aC];simp only[zb,cQ e,EW,simprocAttr];exact hx _
 |cons x r ih =>
  intro pre e hi;rw[aC];have hlen:pre.length+1<=100000:=by rw[e] at hn; simp at hn; omega
  have hw:=ny pre x;have i1:=ih (pre++[x]) (by rw[e]; simp)
  have h0:((pre.length:Int)<0)=False:=by simp
  simp only[List.length_append,List.length_cons,List.length_nil,Nat.zero_add] at i1;rw[OQ] at hi;cases hl:oe c h x<;>rw[hl] at hi
  ·obtain rfl:pre.length=i:=by simpa using hi
   unfold oe at hl;cases h1:decide (x.aV<c)<;>cases h2:x.aV==c<;>cases h3:decide (x.handle<h)<;>rw[h1,h2,h3] at hl<;>first|(cases hl; done)|skip
   all_goals
    simp only[zb,cv e,bT e,hw,h0,h1,h2,h3,cF,df,Bool.or_true,Bool.true_or,Bool.or_false,Bool.false_or,Bool.and_false,Bool.true_and,Bool.false_and,if_true,Bool.false_eq_true,if_false,EW,simprocAttr];exact hx _
  ·have i1:=i1 (by simp at hi; omega)
   unfold oe at hl;cases h1:decide (x.aV<c)<;>cases h2:x.aV==c<;>cases h3:decide (x.handle<h)<;>rw[h1,h2,h3] at hl<;>first|(cases hl; done)|skip
   all_goals
    simp only[zb,cv e,bT e,hw,h0,h1,h2,h3,cF,df,Bool.or_true,Bool.true_or,Bool.or_false,Bool.false_or,Bool.and_false,Bool.true_and,Bool.false_and,if_true,Bool.false_eq_true,if_false,EW,simprocAttr];exact i1
def aiY(t:Tree)(l:List bI)(c h ino:Int)(ht:t.nodes.length<=100000)(hn:l.length<=100000):ag aH 112 [aA t,cj l,.int .i64 c,.int .i64 h,.int .i64 ino] []=some (.tuple [cj (mh t l c h ino).1,.int .i64 (mh t l c h ino).2],[]):=by
 refine ai ?_;have qg:=fun M=>tP t.nodes t.next t.af ino ht M
 have qo:=fun M=>ad9 t.nodes t.next t.af ino ht M
 have qp:=fun M=>Xl l c h hn M
 have hz:(find t.nodes ino).getD Node.zero=aD t.nodes ino:=rfl;rw[hz] at qg
 obtain⟨A,B,hl,hA⟩:∃A B,l=A++B/\fm (oe c h) l=A.length:=⟨l.take (fm (oe c h) l),l.drop (fm (oe c h) l),by simp,by
  rw[List.length_take];have:fm (oe c h) l<=l.length:=by unfold fm; exact(List.takeWhile_prefix _).length_le
  omega⟩
 have hlo:=fun {k R} hx=>SK (t:=t) (n:=aD t.nodes ino) (c:=c) (h:=h) (ino:=ino) (i:=A.length) hn (k:=k) (R:=R) hx l [] rfl (by simpa using hA)
 unfold mh;rw[hA];have a1:l.take A.length=A:=by rw[hl]; simp
 have a2:l.drop A.length=B:=by rw[hl]; simp
 have a3:((A.length:Int)<=(l.length:Int))=True:=by rw[hl]; simp; omega
 have hal:A.length+B.length<=100000:=by rw[hl] at hn; simpa using hn
 have r1:aP A.length 24=True:=jx;have r2:aP (A.length+1) 24=True:=jx;have r3:aP (A.length+1+B.length) 24=True:=jx;generalize aD t.nodes ino=n at qg qo hlo;generalize (find t.nodes ino).isSome=is at qg qo;generalize rq l c h=p at qp
 cases h1:decide (c<0)<;>cases h2:decide (16<=c)<;>cases h3:decide (h<0)<;>cases h4:decide (99<h) <;>
  simp only[JB,zb,aA,ak,qg,h1,h2,h3,h4,aF,an,Bool.or_true,Bool.true_or,Bool.or_false,Bool.false_or,Bool.or_self,if_true,Bool.false_eq_true,if_false,EW,simprocAttr]
 cases is<;>cases h5:gM n<;>rw[h5] at qo<;>simp only[Bool.and_self,Bool.and_true,Bool.and_false,Bool.true_and,Bool.false_and] at qo <;>
  simp only[zb,qo,Bool.or_true,Bool.true_or,Bool.or_false,Bool.false_or,Bool.or_self,if_true,Bool.false_eq_true,if_false,EW,simprocAttr]
 cases h6:n.kind==2<;>simp only[zb,h6,if_true,Bool.false_eq_true,if_false,EW,simprocAttr]
 cases h7:decide (0<=p)<;>simp only[zb,qp,h7,if_true,Bool.false_eq_true,if_false,EW,simprocAttr]
 cases h8:decide (64<=(l.length:Int))<;>simp only[zb,h8,if_true,Bool.false_eq_true,if_false,EW,simprocAttr]
 simp only[List.length_nil,Nat.zero_add,ak,an] at hlo;refine hlo (fun z=>?_)
 rw[a1,a2];have a1':(l.map cF).take A.length=A.map cF:=by rw[<-List.map_take,a1]
 have a2':(l.map cF).drop A.length=B.map cF:=by rw[<-List.map_drop,a2]
 have a5:(l.map cF).take l.length=l.map cF:=by rw[<-List.map_take,List.take_length]
 simp only[zb,a1',a2',a3,a5,r1,r2,r3,Int.le_refl,EW,simprocAttr];simp[cF,df]
def alc(nodes:List Node)(next af:Int)(l:List bI)(c h ino:Int)(ht:nodes.length<=100000)(hn:l.length<=100000)(M:aj):ar (ag aH) 112 [.agg [au nodes,.int .i64 next,.int .i64 af],cj l,.int .i64 c,.int .i64 h,.int .i64 ino] M=some (.tuple [cj (mh ⟨nodes,next,af⟩ l c h ino).1,.int .i64 (mh ⟨nodes,next,af⟩ l c h ino).2],M):=cO (aiY ⟨nodes,next,af⟩ l c h ino ht hn) M
def acD(t:Tree)(l:List bI)(c h:Int)(ht:Rt t)(hl:ko l)(hn:l.length<=64):∃u m e,ag aH 115 [aA t,cj l,.int .i64 c,.int .i64 h] []=some (.tuple [aA u,cj m,.int .i64 e],[])/\Rt u/\ko m/\m.length<=64/\∀y,y∈m->y∈l/\(j5 t.nodes y.ino->j5 u.nodes y.ino):=by
 have qp:=fun M=>Xl l c h (by omega) M
 have hnl:=ht.sz.nodes;rcases jS c h l 0 with ⟨hp,_⟩|⟨m,x,hp,hx,_⟩<;>rw[show gY c h l 0=rq l c h from rfl] at hp
 ·rw[hp] at qp;refine⟨t,l,80,ai ?_,ht,hl,hn,fun y hy=>⟨hy,id⟩⟩
  simp only[x6,Qz,aA,ak,qp,EW,simprocAttr]
 ·rw[hp,Nat.zero_add] at qp;have hm:=(List.getElem?_eq_some_iff.1 hx).1;have h1:((m:Int)<0)=False:=by simp
  have h2:((m:Int)<(l.length:Int))=True:=nj;have w1:IntKind.i64.wrap ((m:Int)+1)=((m+1:Nat):Int):=by rw[cL (by omega) (by omega)]; rfl
  have h3:((m:Int)<=(l.length:Int))=True:=nj;have h4:(((m+1:Nat):Int)<=(l.length:Int))=True:=nj;obtain⟨A,B,e1,e2⟩:∃A B,l.take m=A/\l.drop (m+1)=B:=⟨_,_,rfl,rfl⟩
  have hsub:(A++B).Sublist l:=by
   rw[<-e1,<-e2]
   conv=>rhs; rw[<-List.take_append_drop m l]
   refine List.Sublist.append (List.Sublist.refl _) ?_;rw[<-List.drop_drop];exact List.drop_sublist 1 _
  have hab:A.length+B.length<=64:=by have:=hsub.length_le; simp at this; omega
  have qo:=fun M=>ad9 t.nodes t.next t.af x.ino (by omega) M
  have qh:=fun M=>alw (A++B) x.ino (by simp; omega) M
  have qf:=fun M=>aeb t.nodes t.next t.af x.ino ht.small M
  have hfree:=ht.free x.ino;have hkeep:=fun {i} hf hk=>sd ht x.ino (i:=i) hf hk
  have a1:(l.map cF).take m=A.map cF:=by rw[<-List.map_take,e1]
  have a2:(l.map cF).drop (m+1)=B.map cF:=by rw[<-List.map_drop,e2]
  have a5:(l.map cF).take l.length=l.map cF:=by rw[<-List.map_take,List.take_length]
  have r1:aP A.length 24=True:=jx;have r2:aP (A.length+B.length) 24=True:=jx;generalize ((find t.nodes x.ino).isSome&&gM (aD t.nodes x.ino))=b at qo;generalize gD t x.ino=v at qf hfree hkeep
  have hnot:(ye (A++B) x.ino==0)=true->∀y,y∈A++B->y.ino≠x.ino:=fun h y hy e=>by
   have h0:(A++B).countP (fun z=>z.ino==x.ino)=0:=by
    have:=of_decide_eq_true (show decide (ye (A++B) x.ino=0)=true by simpa using h)
    unfold ye at this; omega
   have:=List.countP_eq_zero.1 h0 y hy;simp[e] at this
  have eAB:cj (A++B) = .slice .sh (A.map cF++B.map cF):=congrArg (ae.slice .sh) List.map_append;rw[eAB] at qh;cases b
  ·refine⟨t,A++B,0,ai ?_,ht,hl.sublist hsub,by simp; omega,fun y hy=>⟨hsub.mem hy,id⟩⟩
   rw[eAB];simp only[x6,Qz,aA,ak,qp,qo,h1,h2,h3,h4,w1,hx,a1,a2,a5,r1,r2,cF,df,List.map_append,Int.le_refl,EW,simprocAttr]
  ·cases h5:ye (A++B) x.ino==0
   ·refine⟨t,A++B,0,ai ?_,ht,hl.sublist hsub,by simp; omega,fun y hy=>⟨hsub.mem hy,id⟩⟩
    rw[eAB];simp only[x6,Qz,aA,ak,qp,qo,qh,h1,h2,h3,h4,h5,w1,hx,a1,a2,a5,r1,r2,cF,df,List.map_append,Int.le_refl,EW,simprocAttr]
   ·refine⟨v.1,A++B,0,ai ?_,hfree,hl.sublist hsub,by simp; omega,fun y hy=>⟨hsub.mem hy,fun hf=>hkeep hf (hnot h5 y hy)⟩⟩
    rw[eAB];simp only[x6,Qz,aA,ak,qp,qo,qh,qf,h1,h2,h3,h4,h5,w1,hx,a1,a2,a5,r1,r2,cF,df,List.map_append,Int.le_refl,EW,simprocAttr]
def c55(t:Tree)(l:List bI)(c:Int)(ht:Rt t)(hl:ko l)(hn:l.length<=64):∃u m,ag aH 55 [aA t,cj l,.int .i64 c] []=some (.tuple [aA u,cj m],[])/\Rt u/\ko m/\m.length<=64/\∀y,y∈m->y∈l/\(j5 t.nodes y.ino->j5 u.nodes y.ino):=by
 have key:∃r:ae×aj,(∃u m,r=(.tuple [aA u,cj m],[])/\Rt u/\ko m/\m.length<=64/\∀y,y∈m->y∈l/\(j5 t.nodes y.ino->j5 u.nodes y.ino))/\bS (ag aH) Ld.results 0 [] Ld.body (bW 0 [aA t,cj l,.int .i64 c]) []=some r:=by
  simp only[Ld,E55,aA,ak,EW,simprocAttr];refine di (xs:=List.replicate 100 ()) (by simp) (fun _ (s:Tree×List bI)=>Rt s.1/\ko s.2/\s.2.length<=64/\∀y,y∈s.2->y∈l/\(j5 t.nodes y.ino->j5 s.1.nodes y.ino)) (fun s i=>[(1,cj s.2),(2,.int .i64 c),(3,.ptr 0 0),(6,.ptr 1 0),(8,.int .i64 i)]) (fun s=>[.cells [au s.1.nodes,.int .i64 s.1.next,.int .i64 s.1.af],.cells [.slice .c0 [],.int .i64 0,.int .i64 0]]) _ (fun s hs=>?_) (fun pre x post s e hx hlt hw h0 _ hs hi=>?_) (t,l) ⟨ht,hl,hn,fun y hy=>⟨hy,id⟩⟩
  ·have e1:(((100:Nat):Int)<=99)=False:=by simp
   simp only[E55,e1,List.length_replicate,EW,simprocAttr];exact⟨_,⟨s.1,s.2,rfl,hs⟩,rfl⟩
  ·have e1:((pre.length:Int)<=99)=True:=by
    have:=of_eq_true hlt;rw[List.length_replicate] at this;simp only[eq_iff_iff,iff_true]; omega
   obtain⟨u,m,e,q,hq⟩:=acD s.1 s.2 c pre.length hs.1 hs.2.1 hs.2.2.1;have qc:=cP q;simp only[aA,ak] at qc;have i1:=hi (u,m) ⟨hq.1,hq.2.1,hq.2.2.1,fun y hy=>⟨(hs.2.2.2 y (hq.2.2.2 y hy).1).1,fun hf=>(hq.2.2.2 y hy).2 ((hs.2.2.2 y (hq.2.2.2 y hy).1).2 hf)⟩⟩
   simp only[E55,e1,hw,qc,EW,simprocAttr];exact i1
 obtain⟨_,⟨u,m,rfl,h1⟩,h3⟩:=key;exact⟨u,m,ai h3,h1⟩
def ai1(l:List bI)(c h:Int)(hn:l.length<=64):∃i e,ag aH 116 [cj l,.int .i64 c,.int .i64 h] []=some (.tuple [.int .i64 i,.int .i64 e],[]):=by
 have qp:=fun M=>Xl l c h (by omega) M
 rcases jS c h l 0 with ⟨hp,_⟩|⟨m,x,hp,hx,_⟩<;>rw[show gY c h l 0=rq l c h from rfl] at hp
 ·rw[hp] at qp;refine⟨0,80,ai ?_⟩;simp only[E7,aar,qp,EW,simprocAttr]
 ·rw[hp,Nat.zero_add] at qp;have hm:=(List.getElem?_eq_some_iff.1 hx).1;have h1:((m:Int)<0)=False:=by simp
  have h2:((m:Int)<(l.length:Int))=True:=nj;refine⟨x.ino,0,ai ?_⟩;simp only[E7,aar,qp,h1,h2,hx,cF,df,EW,simprocAttr]
end
section
attribute [local irreducible] bS cz fu gK bG kr ag ar aQ aG
def aku(l:List bI)(ino:Int)(hn:l.length<=100000):ag aH 247 [cj l,.int .i64 ino] []=some (.bool (l.any fun x=>x.ino==ino),[]):=by
 refine ai ?_;simp only[KY,VB,EW,simprocAttr];refine mD (xs:=l) (by omega) (fun post (_:Unit)=>post.any fun x=>x.ino==ino) (fun _ i=>[(0,cj l),(1,.int .i64 ino),(5,.int .i64 i)]) (fun _=>[]) (fun z=>some (ae.bool z,([]:aj))) (fun _=>?_) (fun pre x post _ e hx hlt hw h0 hm hi=>?_) ()
 ·simp only[VB,Int.lt_irrefl,List.any_nil,EW,simprocAttr]
 ·have i1:=hi ();rw[List.any_cons];cases h1:x.ino==ino<;>simp only[VB,hlt,hx,hw,h0,h1,cF,df,Bool.true_or,Bool.false_or,EW,simprocAttr]<;>exact i1
def alH l ino hn:=cP (aku l ino hn)
def akw(t:Tree)(l:List ba)(ht:t.nodes.length<=100000)(he:∀n,n∈t.nodes->n.av.length<=100000)(hl:l.length<=100000):∃b:Bool,ag aH 249 [aA t,a8 l] []=some (.bool b,[]):=by
 have key:∃r:ae×aj,(∃b:Bool,r=(.bool b,[]))/\bS (ag aH) Bt.results 0 [] Bt.body (bW 0 [aA t,a8 l]) []=some r:=by
  simp only[Bt,VC,aA,ak,EW,simprocAttr];refine di (xs:=l) (by omega) (fun _ (_:Unit)=>True) (fun _ i=>[(1,a8 l),(2,.ptr 0 0),(5,.int .i64 i)]) (fun _=>[.cells [au t.nodes,.int .i64 t.next,.int .i64 t.af]]) _ (fun _ _=>?_) (fun pre x post _ e hx hlt hw h0 _ _ hi=>?_) () trivial
  ·simp only[VC,Int.lt_irrefl,EW,simprocAttr];exact⟨_,⟨_,rfl⟩,rfl⟩
  ·obtain⟨a,b,q⟩:=acJ t x.ino ht he;have qu:=cP q;simp only[aA,ak] at qu;have i1:=hi () trivial;cases h1:decide (x.nodes<a)<;>cases h2:decide (x.bytes<b)<;>simp only[VC,hlt,hx,hw,h0,qu,h1,h2,bz,cZ,EW,simprocAttr]<;>first|exact i1|exact⟨_,⟨_,rfl⟩,rfl⟩
 obtain⟨_,⟨b,rfl⟩,h3⟩:=key;exact⟨b,ai h3⟩
section
variable {t:Tree} {l:List ba} {Q:ae×aj->Prop}
abbrev Qy(t:Tree):aj:=[.cells [au t.nodes,.int .i64 t.next,.int .i64 t.af]]
def OI(ht:t.nodes.length<=100000)(hl:l.length<=100000){i j:Nat}{x d:Node}(hi':t.nodes[i]?=some x)(hd:d.av.length<=100000){k:List K}
  (hx:∀(a:Int) z,∃r,Q r/\kr (ag aH) [.tmp 4] 0 k ⟨.exit 4,(1,a8 l)::(2,.ptr 0 0)::(5,.int .i64 i)::(6,.int .i64 a)::(7,.int .i64 j)::(8,.ptr 1 0)::z,Qy t++[.cells (an d)]⟩=some r)
  (hr:∀M,∃r,Q r/\kr (ag aH) [.tmp 4] 0 k ⟨.ret,[(4,.bool false)],M⟩=some r) (a:Int) :
  ∃r,Q r/\bS (ag aH) [.tmp 4] 0 k (.loop [1,2,5,6,7,8,9] Sv) [(1,a8 l),(2,.ptr 0 0),(5,.int .i64 i),(6,.int .i64 a),(7,.int .i64 j),(8,.ptr 1 0),(9,.int .i64 0)] (Qy t++[.cells (an d)])=some r:=by
 have b1:((i:Int)<0)=False:=by simp
 refine di (xs:=d.av) (by omega) (fun _ _=>True) (fun(a:Int) n=>[(1,a8 l),(2,.ptr 0 0),(5,.int .i64 i),(6,.int .i64 a),(7,.int .i64 j),(8,.ptr 1 0),(9,.int .i64 n)]) (fun _=>Qy t++[.cells (an d)]) Q (fun a _=>?_) (fun pre e post a h hx' hlt hw h0 hm _ hi=>?_) a trivial
 ·simp only[Qy,an,List.cons_append,List.nil_append] at hx ⊢;simp only[vd,Int.lt_irrefl,EW,simprocAttr];exact hx a _
 ·obtain⟨u,q⟩:=akM t l d.ino ht hl;have qd:=cP q;simp only[aA,ak] at qd;have i1:=hi a trivial;have i2:=hi u trivial;simp only[Qy,an,List.cons_append,List.nil_append] at i1 i2 ⊢;cases h1:e.ino != x.ino
  ·cases h2:decide (0<=a)<;>cases h3:u != a<;>simp only[vd,hlt,hx',hw,h0,hi',b1,qd,h1,h2,h3,aF,an,cn,bU,EW,simprocAttr]<;>first|exact i2|exact hr _
  ·simp only[vd,hlt,hx',hw,h0,hi',b1,h1,aF,an,cn,bU,EW,simprocAttr];exact i1
def OJ(ht:t.nodes.length<=100000)(he:∀n,n∈t.nodes->n.av.length<=100000)(hl:l.length<=100000){i:Nat}{x:Node}(hi':t.nodes[i]?=some x){k:List K}
  (hx:∀z,∃r,Q r/\kr (ag aH) [.tmp 4] 0 k ⟨.exit 2,(1,a8 l)::(2,.ptr 0 0)::(5,.int .i64 i)::z,Qy t⟩=some r)
  (hr:∀M,∃r,Q r/\kr (ag aH) [.tmp 4] 0 k ⟨.ret,[(4,.bool false)],M⟩=some r) (a:Int) :
  ∃r,Q r/\bS (ag aH) [.tmp 4] 0 k (.loop [1,2,5,6,7] Sw) [(1,a8 l),(2,.ptr 0 0),(5,.int .i64 i),(6,.int .i64 a),(7,.int .i64 0)] (Qy t)=some r:=by
 refine di (xs:=t.nodes) (by omega) (fun _ _=>True) (fun(a:Int) n=>[(1,a8 l),(2,.ptr 0 0),(5,.int .i64 i),(6,.int .i64 a),(7,.int .i64 n)]) (fun _=>Qy t) Q (fun a _=>?_) (fun pre d post a h hx' hlt hw h0 hm _ hi=>?_) a trivial
 ·simp only[vd,Int.lt_irrefl,EW,simprocAttr];exact hx _
 ·have la:=fun {k} h2 h3=>OI (t:=t) (l:=l) (Q:=Q) ht hl (j:=pre.length) hi' (he d hm) (k:=k) h2 h3 a
  simp only[Qy,an,List.cons_append,List.nil_append] at la ⊢;simp only[vd,hlt,hx',h0,aF,an,EW,simprocAttr];refine la (fun a z=>?_) (fun M=>?_)
  ·have i1:=hi a trivial;simp only[vd,hw,EW,simprocAttr];exact i1
  ·simp only[vd,EW,simprocAttr];exact hr _
end
def akv(t:Tree)(l:List ba)(ht:t.nodes.length<=100000)(he:∀n,n∈t.nodes->n.av.length<=100000)(hl:l.length<=100000):∃b:Bool,ag aH 248 [aA t,a8 l] []=some (.bool b,[]):=by
 have key:∃r:ae×aj,(∃b:Bool,r=(.bool b,[]))/\bS (ag aH) Bs.results 0 [] Bs.body (bW 0 [aA t,a8 l]) []=some r:=by
  simp only[Bs,vd,aA,ak,EW,simprocAttr];refine di (xs:=t.nodes) (by omega) (fun _ (_:Unit)=>True) (fun _ i=>[(1,a8 l),(2,.ptr 0 0),(5,.int .i64 i)]) (fun _=>Qy t) _ (fun _ _=>?_) (fun pre x post _ e hx hlt hw h0 _ _ hi=>?_) () trivial
  ·simp only[vd,Int.lt_irrefl,EW,simprocAttr];exact⟨_,⟨_,rfl⟩,rfl⟩
  ·have lb:=fun {k Q} h2 h3=>OJ (t:=t) (l:=l) (Q:=Q) ht he hl hx (k:=k) h2 h3 (-1)
   have i1:=hi () trivial;cases h1:x.kind != 1<;>simp only[vd,hlt,hx,hw,h0,h1,aF,an,EW,simprocAttr]
   ·refine lb (fun z=>?_) (fun M=>?_)
    ·simp only[vd,hw,EW,simprocAttr];exact i1
    ·simp only[vd,EW,simprocAttr];exact⟨_,⟨_,rfl⟩,rfl⟩
   ·exact i1
 obtain⟨_,⟨b,rfl⟩,h3⟩:=key;exact⟨b,ai h3⟩
section
variable {f:aa} {t:Tree} {q:List ba} {Q:ae×aj->Prop}
abbrev stM(f:aa)(t:Tree):aj:=[.cells (aR f),.cells [au t.nodes,.int .i64 t.next,.int .i64 t.af],.cells kj]
abbrev Ag(q:List ba):Env:=[(2,a8 q),(3,.ptr 0 0),(4,.ptr 1 0),(6,.ptr 2 0)]
def Ox(ht:Rt t)(hh:f.holds.length<=64){k:List K}
  (hx:∀(F:List Int) z,F.length<=1000->(∀i,i∈F->∀y,y∈f.holds->y.ino≠i)->∃r,Q r/\kr (ag aH) [.bl 6 10,.tmp 7] 0 k ⟨.exit 0,Ag q++(8,.slice (.own 3) (F.map fF))::z,stM f t++[.tick 1 F.length]⟩=some r) :
  ∃r,Q r/\bS (ag aH) [.bl 6 10,.tmp 7] 0 k (.loop [2,3,4,6,8,9] Sa) (Ag q++[(8,.slice (.own 3) []),(9,.int .i64 0)]) (stM f t++[.tick 1 0])=some r:=by
 have h200:=ht.sz.nodes;refine di (xs:=t.nodes) (by omega) (fun m (F:List Int)=>F.length<=m/\∀i,i∈F->∀y,y∈f.holds->y.ino≠i) (fun F i=>Ag q++[(8,.slice (.own 3) (F.map fF)),(9,.int .i64 i)]) (fun F=>stM f t++[.tick 1 F.length]) Q (fun F hF=>?_) (fun pre x post F e hx' hlt hw h0 hm hF hi=>?_) [] ⟨Nat.le_refl _,fun i h=>by cases h⟩
 ·simp only[stM,Ag,aR,kj,List.cons_append,List.nil_append] at hx ⊢;simp only[xt,Int.lt_irrefl,EW,simprocAttr];exact hx F _ (by omega) hF.2
 ·have hp:=(List.getElem?_eq_some_iff.1 hx').1;have i1:=hi F ⟨by omega,hF.2⟩
  have i2:=fun hb:(f.holds.any fun y=>y.ino==x.ino)=false=>hi (F++[x.ino]) ⟨by simp; omega,fun i h y hy=>by
   rcases List.mem_append.1 h with h|h
   ·exact hF.2 i h y hy
   ·rw[List.mem_singleton.1 h];simpa using List.any_eq_false.1 hb y hy⟩
  have qh:=fun M=>alH f.holds x.ino (by omega) M
  generalize (f.holds.any fun y=>y.ino==x.ino)=b at qh i2
  have r1:aP (F.length+1) 8=True:=jx;simp only[stM,Ag,aR,kj,List.cons_append,List.nil_append,List.map_append,List.map_cons,List.map_nil,List.length_append,List.length_cons,List.length_nil,Nat.zero_add,fF] at i1 i2 ⊢;cases h1:x.kind==1<;>cases h2:x.bE==0<;>cases b<;>simp only[xt,hlt,hx',hw,h0,h1,h2,qh,r1,lR,aF,an,fF,EW,simprocAttr]<;>first|exact i1|exact i2 rfl
def Oy{F:List Int}(hF:F.length<=1000)(hno:∀i,i∈F->∀y,y∈f.holds->y.ino≠i){t0:Tree}{k:List K}
  (hx:∀(t:Tree) z,Rt t->(∀y,y∈f.holds->j5 t0.nodes y.ino->j5 t.nodes y.ino)->∃r,Q r/\kr (ag aH) [.bl 6 10,.tmp 7] 0 k ⟨.exit 2,Ag q++(8,.slice (.own 3) (F.map fF))::z,stM f t++[.tick 1 F.length]⟩=some r) (ht:Rt t) (hk:∀y,y∈f.holds->j5 t0.nodes y.ino->j5 t.nodes y.ino) :
  ∃r,Q r/\bS (ag aH) [.bl 6 10,.tmp 7] 0 k (.loop [2,3,4,6,8,11] Sb) (Ag q++[(8,.slice (.own 3) (F.map fF)),(11,.int .i64 0)]) (stM f t++[.tick 1 F.length])=some r:=by
 refine di (xs:=F) (by omega) (fun _ (t:Tree)=>Rt t/\∀y,y∈f.holds->j5 t0.nodes y.ino->j5 t.nodes y.ino) (fun _ i=>Ag q++[(8,.slice (.own 3) (F.map fF)),(11,.int .i64 i)]) (fun t=>stM f t++[.tick 1 F.length]) Q (fun t ht=>?_) (fun pre x post t e hx' hlt hw h0 hm ht hi=>?_) t ⟨ht,hk⟩
 ·simp only[stM,Ag,aR,kj,List.cons_append,List.nil_append] at hx ⊢;simp only[xt,Int.lt_irrefl,EW,simprocAttr];exact hx t _ ht.1 ht.2
 ·have i1:=hi _ ⟨ht.1.free x,fun y hy hf=>sd ht.1 x (ht.2 y hy hf) (hno x hm y hy)⟩
  have qf:=fun M=>aeb t.nodes t.next t.af x ht.1.small M
  generalize gD t x=v at qf i1;simp only[aA,ak] at qf;simp only[stM,Ag,aR,kj,List.cons_append,List.nil_append] at i1 ⊢;simp only[xt,hlt,hx',hw,h0,qf,fF,EW,simprocAttr];exact i1
def Oz(ht:Rt t)(hq:iH q)(hn:q.length<=16){F:List Int}{k:List K}
  (hx:∀(L:List ba) z,iH L->L.length<=16->∃r,Q r/\kr (ag aH) [.bl 6 10,.tmp 7] 0 k ⟨.exit 4,Ag q++(14,.slice (.own 4) (L.map bz))::z,stM f t++[.tick 1 F.length,.tick 3 L.length]⟩=some r) :
  ∃r,Q r/\bS (ag aH) [.bl 6 10,.tmp 7] 0 k (.loop [2,3,4,6,14,15] Sc) (Ag q++[(14,.slice (.own 4) []),(15,.int .i64 0)]) (stM f t++[.tick 1 F.length,.tick 3 0])=some r:=by
 have h200:=ht.sz.nodes;refine di (xs:=q) (by omega) (fun m (L:List ba)=>L.Sublist (q.take m)) (fun L i=>Ag q++[(14,.slice (.own 4) (L.map bz)),(15,.int .i64 i)]) (fun L=>stM f t++[.tick 1 F.length,.tick 3 L.length]) Q (fun L hL=>?_) (fun pre x post L e hx' hlt hw h0 hm hL hi=>?_) [] (List.nil_sublist _)
 ·rw[List.take_length] at hL;simp only[stM,Ag,aR,kj,List.cons_append,List.nil_append] at hx ⊢;simp only[xt,Int.lt_irrefl,EW,simprocAttr];exact hx L _ (hq.sublist hL) (Nat.le_trans hL.length_le hn)
 ·have ht1:q.take (pre.length+1)=q.take pre.length++[x]:=by rw[List.take_add_one,hx']; rfl
  have i1:=hi L (by rw[ht1]; exact hL.trans (List.sublist_append_left _ _))
  have i2:=hi (L++[x]) (by rw[ht1]; exact hL.append (List.Sublist.refl _))
  have hLl:L.length<=16:=Nat.le_trans hL.length_le (by simp; omega)
  have qg:=fun M=>tP t.nodes t.next t.af x.ino (by omega) M
  generalize (find t.nodes x.ino).getD Node.zero=n at qg;generalize (find t.nodes x.ino).isSome=b at qg;have r1:aP (L.length+1) 24=True:=jx;simp only[stM,Ag,aR,kj,List.cons_append,List.nil_append,List.map_append,List.map_cons,List.map_nil,List.length_append,List.length_cons,List.length_nil,Nat.zero_add,bz,cZ] at i1 i2 ⊢;cases b<;>simp only[xt,hlt,hx',hw,h0,qg,r1,aF,an,bz,cZ,EW,simprocAttr]<;>first|exact i1|exact i2
end
def CZ(f:aa):Prop:=∀y,y∈f.holds->j5 f.s.now.nodes y.ino
def FB.Zt{k:Nat}{f:aa}(h:FB k f)(hk:k<=89000){t:Tree}(ht:Rt t){u:c8}(hu:IE f.s t u){H:List bI}(hH:ko H)(hl:H.length<=64){Q:List ba}(hQ:iH Q)(hq:Q.length<=16):FB (k+200) ⟨u,H,Q⟩:=by
 have hf:=h.ok;have hp:=h.past;have h200:=hf.rt.sz.nodes;rcases hu with rfl|⟨e1,e2,e3,e4,e5⟩
 ·exact⟨⟨hf.rt,hf.len,hf.bq,hf.ub,hf.taken,hH,hl,hQ,hq⟩,by simp only; omega⟩
 ·refine⟨⟨by rw[e1]; exact ht,by simp only[e1,e2],by simp only; omega,fun p hp=>?_,by simp only[e3]; exact hf.taken,hH,hl,hQ,hq⟩,by simp only; omega⟩
  rcases e5 p hp with h'|h'
  ·exact hf.ub p h'
  ·exact hf.rt.Qx h'
def IE.hok{f:aa}{t:Tree}{u:c8}(hu:IE f.s t u){H:List bI}{Q:List ba}(hH:∀y,y∈H->y∈f.holds/\(j5 f.s.now.nodes y.ino->j5 t.nodes y.ino))(h:CZ f):CZ ⟨u,H,Q⟩:=fun y hy=>by
 rcases hu with rfl|⟨e1,_⟩
 ·exact h y (hH y hy).1
 ·simp only[e1];exact(hH y hy).2 (h y (hH y hy).1)
def ajK{K:Nat}(f:aa)(t:Tree)(q:List ba)(hf:FB K f)(hK:K<=89000)(ht:Rt t)(hq:iH q)(hn:q.length<=16)(hkp:∀y,y∈f.holds->j5 f.s.now.nodes y.ino->j5 t.nodes y.ino):∃g e,ag aH 176 [.agg (aR f),aA t,a8 q] []=some (.tuple [.agg (aR g),.int .i64 e],[])/\FB (K+200) g/\(CZ f->CZ g):=by
 have key:∃r:ae×aj,(∃g e,r=(.tuple [.agg (aR g),.int .i64 e],[])/\FB (K+200) g/\(CZ f->CZ g))/\bS (ag aH) Bk.results 0 [] Bk.body (bW 0 [.agg (aR f),aA t,a8 q]) []=some r:=by
  have la:=fun {k Q} hx=>Ox (f:=f) (t:=t) (q:=q) (Q:=Q) ht hf.ok.hlen (k:=k) hx
  simp only[stM,Ag,aR,kj,List.cons_append,List.nil_append] at la;simp only[Bk,xt,aR,aA,ak,EW,simprocAttr];refine la (fun F z hF hno=>?_)
  have lb:=fun {k Q} hx=>Oy (f:=f) (t:=t) (q:=q) (Q:=Q) hF hno (t0:=t) (k:=k) hx ht (fun _ _ h=>h)
  simp only[stM,Ag,aR,kj,List.cons_append,List.nil_append] at lb;simp only[xt,EW,simprocAttr];refine lb (fun t z ht hk2=>?_)
  have lc:=fun {k Q} hx=>Oz (f:=f) (t:=t) (q:=q) (Q:=Q) ht hq hn (F:=F) (k:=k) hx
  simp only[stM,Ag,aR,kj,List.cons_append,List.nil_append] at lc;simp only[xt,EW,simprocAttr];refine lc (fun L z hL hLn=>?_)
  have h200:=ht.sz.nodes;obtain⟨b1,q1⟩:=akv t L (by omega) (fun n hn=>by have:=(ht.Qx hn).1; omega) (by omega)
  obtain⟨b2,q2⟩:=akw t L (by omega) (fun n hn=>by have:=(ht.Qx hn).1; omega) (by omega)
  obtain⟨u,q3,hu⟩:=c56 f.s t hf.ok.rt ht hf.ok.len hf.ok.taken hf.ok.bq;have g1:=cP q1;have g2:=cP q2;have g3:=cP q3;simp only[aA,ak,aE] at g1 g2 g3;have hfin:=hf.Zt hK ht hu hf.ok.holds hf.ok.hlen hL hLn;have hho:CZ f->CZ ⟨u,f.holds,L⟩:=fun h=>hu.hok (fun y hy=>⟨hy,fun hf=>hk2 y hy (hkp y hy hf)⟩) h
  cases b1<;>cases b2<;>simp only[xt,g1,g2,g3,EW,simprocAttr]
  ·exact⟨_,⟨f,91,rfl,hf.mono (by omega),id⟩,rfl⟩
  ·exact⟨_,⟨f,91,rfl,hf.mono (by omega),id⟩,rfl⟩
  ·exact⟨_,⟨_,0,rfl,hfin,hho⟩,rfl⟩
  ·exact⟨_,⟨f,90,rfl,hf.mono (by omega),id⟩,rfl⟩
 obtain⟨_,⟨g,e,rfl,h1⟩,h3⟩:=key;exact⟨g,e,ai h3,h1⟩
end
def Hl(s:Bytes):(uN s).1.length<=100000/\(uN s).2.1.length<=100000:=by
 obtain⟨o1,o2⟩:=pO s;unfold uN;split
 ·exact⟨by simp,by simp⟩
 ·generalize (hU s).1=l at o1 o2;constructor
  ·simp only;cases h:l.getLast? with
   |none=>simp
   |some x=>have:=iP (o1 x (List.mem_of_getLast? h)); simp only[Option.getD_some]; omega
  ·simp only[Fu];split
   ·simp
   ·have h1:=wD l.dropLast [] (fun x hx=>iP (o1 x (List.Sublist.mem hx (List.dropLast_sublist _))))
    simp only[List.length_nil,List.length_dropLast] at h1;omega
section
attribute [local irreducible] bS cz fu gK bG kr ag ar aQ aG
def c49(e:Int):ag aH 49 [.int .i64 e] []=some (.agg (bj (cI e)),[]):=by
 refine ai ?_;simp only[WN,E49,EW,simprocAttr];rfl
def Xq e:=cP (c49 e)
def acC(n:Node):∃a:Int,ag aH 110 [aF n] []=some (.int .i64 a,[]):=by
 cases h1:n.kind==2
 ·refine⟨n.data.length,ai ?_⟩;simp only[E6,aaq,aF,an,h1,EW,simprocAttr]
 ·refine⟨n.av.length,ai ?_⟩;simp only[E6,aaq,aF,an,h1,EW,simprocAttr]
def acB(t:Tree)(s:Bytes)(ht:Small t)(hs:s.length<=100000):∃d nm e,ag aH 103 [aA t,.str s] []=some (.tuple [.int .i64 d,.str nm,.int .i64 e],[])/\nm.length<=100000:=by
 have ql:=fun M=>cO (ajG s hs) M
 obtain⟨h1,h2⟩:=Hl s;generalize uN s=v at ql h1 h2;have qw:=fun M=>Xb t.nodes t.next t.af v.2.1 ht h2 M
 generalize u9 t.nodes v.2.1=w at qw;cases h3:v.2.2 != 0
 ·refine⟨w.1,v.1,w.2,ai ?_,h1⟩;simp only[E5,aam,aA,ak,ql,qw,h3,EW,simprocAttr]
 ·refine⟨0,[],v.2.2,ai ?_,by simp⟩
  simp only[E5,aam,aA,ak,ql,h3,EW,simprocAttr]
def p7(K:Nat)(f:aa)(F:Nat)(vs:List ae):Prop:=∃g a,ag aH F vs []=some (.tuple [.agg (aR g),.agg (bj a)],[])/\FB (K+200) g/\(CZ f->CZ g)
def De{K:Nat}(f:aa)(t:Tree)(q:List ba)(e:Int)(a:Ib)(hf:FB K f)(hK:K<=89000)(ht:Rt t)(hq:iH q)(hn:q.length<=16)(hkp:∀y,y∈f.holds->j5 f.s.now.nodes y.ino->j5 t.nodes y.ino):p7 K f 105 [.agg (aR f),aA t,a8 q,.int .i64 e,.agg (bj a)]:=by
 obtain⟨g,e',qs,hg⟩:=ajK f t q hf hK ht hq hn hkp;have q1:=cP qs;have q2:=Xq;simp only[aA,ak,aR,bj] at q1 q2;cases h1:e != 0
 ·cases h2:e' != 0
  ·refine⟨g,a,ai ?_,hg⟩;simp only[Bb,Vk,aA,ak,aR,bj,q1,q2,h1,h2,EW,simprocAttr]
  ·refine⟨f,cI e',ai ?_,hf.mono (by omega),id⟩
   simp only[Bb,Vk,aA,ak,aR,bj,q1,q2,h1,h2,EW,simprocAttr]
 ·refine⟨f,cI e,ai ?_,hf.mono (by omega),id⟩
  simp only[Bb,Vk,aA,ak,aR,bj,q1,q2,h1,EW,simprocAttr]
def c50{K:Nat}(f:aa)(o:dG)(hf:FB K f)(hK:K<=89000)(ho:p6 o):p7 K f 50 [.agg (aR f),.agg (bB o)]:=by
 have hr:=hf.ok.rt;have hz:Sz 1000 f.s.now:=⟨by have:=hr.sz.nodes; omega,fun n hn=>by have:=hr.sz.av n hn; omega,hr.sz.data⟩
 have hp:o.path.length<=100000:=by have:=ho.path; omega
 have hto:o.lU.length<=100000:=by have:=ho.lU; omega
 obtain⟨d,nm,e1,qa,hnm⟩:=acB f.s.now o.path hr.small hp;obtain⟨d',nm',e2,qb,hnm'⟩:=acB f.s.now o.lU hr.small hto;have q1:=cP qa;have q2:=cP qb;have q3:=fun M=>Xb f.s.now.nodes f.s.now.next f.s.now.af o.path hr.small hp M
 generalize u9 f.s.now.nodes o.path=w at q3;have q4:=Xq;simp only[aA,ak,aR,bj] at q1 q2 q4;have back:FB (K+200) f:=hf.mono (by omega)
 cases h0:o.kind==3
 ·cases h1:e1 != 0
  ·cases h2:o.kind==2
   ·cases h3:o.kind==4
    ·cases h4:e2 != 0
     ·have q5:=fun M=>alb f.s.now.nodes f.s.now.next f.s.now.af d nm d' nm' hz hnm hnm' M
      have q6:=fun M=>RG f.s.now.nodes f.s.now.next f.s.now.af d nm hr.small hnm M
      have hv:=hr.mv d nm d' nm';have hkf:=Fw hr d nm d' nm';generalize pJ f.s.now d nm d' nm'=v at q5 hv hkf;generalize bM f.s.now.nodes d nm=u at q6;obtain⟨g,a,qd,hg⟩:=De f v.1 f.bt v.2.2 ⟨0,u.1,0,0,0,[],[]⟩ hf hK hv hf.ok.bt hf.ok.jN (fun y _ h=>hkf.2 _ h)
      have q7:=cP qd;simp only[aA,ak,aR,bj,bg,bc,List.map_nil] at q5 q6 q7;refine⟨g,a,ai ?_,hg⟩;simp only[xC,Ug,aR,bB,bj,h0,h1,h2,h3,h4,q1,q2,q5,q6,q7,EW,simprocAttr]
     ·refine⟨f,cI e2,ai ?_,back,id⟩;simp only[xC,Ug,aR,bB,bj,h0,h1,h2,h3,h4,q1,q2,q4,EW,simprocAttr]
    ·have q5:=fun M=>ala f.s.now.nodes f.s.now.next f.s.now.af d nm hz hnm M
     have hv:=hr.un d nm;have hkf:=Fx hr d nm;generalize vo f.s.now d nm=v at q5 hv hkf;obtain⟨g,a,qd,hg⟩:=De f v.1 f.bt v.2.2 ⟨0,v.2.1,0,0,0,[],[]⟩ hf hK hv hf.ok.bt hf.ok.jN (fun y _ h=>hkf.2 _ h)
     have q7:=cP qd;simp only[aA,ak,aR,bj,bg,bc,List.map_nil] at q5 q7;refine⟨g,a,ai ?_,hg⟩;simp only[xC,Ug,aR,bB,bj,h0,h1,h2,h3,q1,q5,q7,EW,simprocAttr]
   ·have q5:=fun M=>ak9 f.s.now.nodes f.s.now.next f.s.now.af d nm o.n hz hnm M
    have hv:=hr.add d nm o.n;have hkf:=BQ hr d nm o.n;generalize kf f.s.now d nm o.n=v at q5 hv hkf;obtain⟨g,a,qd,hg⟩:=De f v.1 f.bt v.2.2 ⟨0,v.2.1,o.n,0,0,[],[]⟩ hf hK hv hf.ok.bt hf.ok.jN (fun y _ h=>hkf.2 _ h)
    have q7:=cP qd;simp only[aA,ak,aR,bj,bg,bc,List.map_nil] at q5 q7;refine⟨g,a,ai ?_,hg⟩;simp only[xC,Ug,aR,bB,bj,h0,h1,h2,q1,q5,q7,EW,simprocAttr]
  ·refine⟨f,cI e1,ai ?_,back,id⟩;simp only[xC,Ug,aR,bB,bj,h0,h1,q1,q4,EW,simprocAttr]
 ·cases h1:w.2 != 0
  ·cases h2:e2 != 0
   ·have q5:=fun M=>ak8 f.s.now.nodes f.s.now.next f.s.now.af w.1 d' nm' hz hnm' M
    have hv:=hr.ln w.1 d' nm';have hkf:=Fv hr w.1 d' nm';generalize wL f.s.now w.1 d' nm'=v at q5 hv hkf;obtain⟨g,a,qd,hg⟩:=De f v.1 f.bt v.2 ⟨0,w.1,0,0,0,[],[]⟩ hf hK hv hf.ok.bt hf.ok.jN (fun y _ h=>hkf.2 _ h)
    have q7:=cP qd;simp only[aA,ak,aR,bj,bg,bc,List.map_nil] at q5 q7;refine⟨g,a,ai ?_,hg⟩;simp only[xC,Ug,aR,bB,bj,h0,h1,h2,q2,q3,q5,q7,EW,simprocAttr]
   ·refine⟨f,cI e2,ai ?_,back,id⟩;simp only[xC,Ug,aR,bB,bj,h0,h1,h2,q2,q3,q4,EW,simprocAttr]
  ·refine⟨f,cI w.2,ai ?_,back,id⟩;simp only[xC,Ug,aR,bB,bj,h0,h1,q3,q4,EW,simprocAttr]
end
section
attribute [local irreducible] bS cz fu gK bG kr ag ar aQ aG
section
variable {t:Tree} {n:Node} {many:Int} {Q:ae×aj->Prop}
abbrev YQ(t:Tree)(n:Node)(out:List ct):aj:=[.cells [au t.nodes,.int .i64 t.next,.int .i64 t.af],.cells [.int .i64 n.ino,.int .i64 n.kind,.int .i64 n.bE,bc n.data,cT n.av,.int .i64 n.up],.tick 3 out.length]
def B4(hn:n.av.length<=100000){dZ:Int}{out:List ct}{k:List K}
  (hx:∀(b:Int) z,(b = -1\/∃i:Nat,i<n.av.length/\b=i)->∃r,Q r/\kr (ag aH) [.tmp 8,.tmp 9,.tmp 10] 0 k ⟨.exit 2,(2,.int .i64 dZ)::(3,.int .i64 many)::(11,.ptr 1 0)::(13,.slice (.own 2) (out.map cn))::(14,.int .i64 b)::z,YQ t n out⟩=some r) :
  ∃r,Q r/\bS (ag aH) [.tmp 8,.tmp 9,.tmp 10] 0 k (.loop [2,3,11,13,14,15] RT) [(2,.int .i64 dZ),(3,.int .i64 many),(11,.ptr 1 0),(13,.slice (.own 2) (out.map cn)),(14,.int .i64 (-1)),(15,.int .i64 0)] (YQ t n out)=some r:=by
 refine di (xs:=n.av) (by omega) (fun _ (b:Int)=>b = -1\/∃i:Nat,i<n.av.length/\b=i) (fun b i=>[(2,.int .i64 dZ),(3,.int .i64 many),(11,.ptr 1 0),(13,.slice (.own 2) (out.map cn)),(14,.int .i64 b),(15,.int .i64 i)]) (fun _=>YQ t n out) Q (fun b hb=>?_) (fun pre e post b h hx' hlt hw h0 hm hb hi=>?_) (-1) (.inl rfl)
 ·simp only[qO,Int.lt_irrefl,EW,simprocAttr];exact hx b _ hb
 ·have hp:=(List.getElem?_eq_some_iff.1 hx').1;have i1:=hi b hb;have i2:=hi pre.length (.inr ⟨_,hp,rfl⟩);rcases hb with rfl|⟨a,ha,rfl⟩
  ·cases h1:decide (dZ<=e.af)<;>simp only[qO,hlt,hx',hw,h0,h1,cn,bU,EW,simprocAttr]<;>first|exact i1|exact i2
  ·have a0:((a:Int)<0)=False:=by simp
   have a1:((a:Int)<(n.av.length:Int))=True:=nj;obtain⟨y,hy⟩:∃y,n.av[a]?=some y:=⟨_,List.getElem?_eq_getElem ha⟩;cases h1:decide (dZ<=e.af)<;>cases h2:decide (e.af<y.af)<;>simp only[qO,hlt,hx',hw,h0,a0,a1,hy,h1,h2,cn,bU,EW,simprocAttr]<;>first|exact i1|exact i2
def Om(hn:n.av.length<=100000){m:Nat}(hm:1<=m)(hm':m<=64){k:List K}
  (hr:∀(out:List ct)(x:Int),out.length<=64->∃r,Q r/\kr (ag aH) [.tmp 8,.tmp 9,.tmp 10] 0 k ⟨.ret,[(8,.slice (.own 2) (out.map cn)),(9,.int .i64 x),(10,.int .i64 0)],YQ t n out⟩=some r) :
  ∀(d:Nat)(dZ:Int)(out:List ct),out.length+d=m->∃r,Q r/\bS (ag aH) [.tmp 8,.tmp 9,.tmp 10] 0 k (.loop [2,3,11,13] RU) [(2,.int .i64 dZ),(3,.int .i64 m),(11,.ptr 1 0),(13,.slice (.own 2) (out.map cn))] (YQ t n out)=some r:=by
 intro d;induction d with
 |zero =>
  intro dZ out hd;rw[aC];have la:=fun {k} hx=>B4 (t:=t) (n:=n) (many:=m) (Q:=Q) hn (dZ:=dZ) (out:=out) (k:=k) hx
  simp only[qO,EW,simprocAttr];refine la (fun b z hb=>?_)
  rcases hb with rfl|⟨a,ha,rfl⟩
  ·simp only[qO,EW,simprocAttr];exact hr out 0 (by omega)
  ·have a0:((a:Int)<0)=False:=by simp
   have e1:((out.length:Int)==(m:Int))=true:=by simp; omega
   have w1:IntKind.i64.wrap ((m:Int)-1)=((m-1:Nat):Int):=by rw[cL (by omega) (by omega)]; omega
   have e2:(((m-1:Nat):Int)<(out.length:Int))=True:=nj;have e3:(((m-1:Nat):Int)<0)=False:=by simp
   obtain⟨y,hy⟩:∃y,out[m-1]?=some y:=⟨_,List.getElem?_eq_getElem (by omega)⟩
   simp only[qO,a0,e1,w1,e2,e3,hy,cn,bU,EW,simprocAttr];exact hr out _ (by omega)
 |succ d ih =>
  intro dZ out hd;rw[aC];have la:=fun {k} hx=>B4 (t:=t) (n:=n) (many:=m) (Q:=Q) hn (dZ:=dZ) (out:=out) (k:=k) hx
  simp only[qO,EW,simprocAttr];refine la (fun b z hb=>?_)
  rcases hb with rfl|⟨a,ha,rfl⟩
  ·simp only[qO,EW,simprocAttr];exact hr out 0 (by omega)
  ·have a0:((a:Int)<0)=False:=by simp
   have a1:((a:Int)<(n.av.length:Int))=True:=nj;obtain⟨y,hy⟩:∃y,n.av[a]?=some y:=⟨_,List.getElem?_eq_getElem ha⟩;have e1:((out.length:Int)==(m:Int))=false:=by simp; omega
   have r1:aP (out.length+1) 32=True:=jx;have i1:=fun dZ=>ih dZ (out++[y]) (by simp; omega)
   simp only[YQ,List.map_append,List.map_cons,List.map_nil,List.length_append,List.length_cons,List.length_nil,Nat.zero_add,cn,bU] at i1 ⊢;simp only[qO,a0,a1,e1,r1,hy,cn,bU,EW,simprocAttr];exact i1 _
end
def aiX(t:Tree)(ino dZ many:Int)(ht:Rt t):∃out x e,ag aH 111 [aA t,.int .i64 ino,.int .i64 dZ,.int .i64 many] []=some (.tuple [cT out,.int .i64 x,.int .i64 e],[])/\out.length<=64:=by
 have key:∃r:ae×aj,(∃out x e,r=(.tuple [cT out,.int .i64 x,.int .i64 e],[])/\out.length<=64)/\bS (ag aH) rU.results 0 [] rU.body (bW 0 [aA t,.int .i64 ino,.int .i64 dZ,.int .i64 many]) []=some r:=by
  have qd:=fun M=>RM t.nodes t.next t.af ino (by have:=ht.sz.nodes; omega) M
  have hd:(cK t.nodes ino).1.av.length<=100000:=by obtain⟨dep,g⟩:=ht; have:=(tq g ino).2; omega
  generalize cK t.nodes ino=v at qd hd;cases h1:decide (dZ<0)
  case true =>
   simp only[rU,qO,aA,ak,h1,EW,simprocAttr];exact⟨_,⟨[],0,1,rfl,by simp⟩,rfl⟩
  cases h2:decide (many<1)
  case true =>
   simp only[rU,qO,aA,ak,h1,h2,EW,simprocAttr];exact⟨_,⟨[],0,1,rfl,by simp⟩,rfl⟩
  cases h3:decide (64<many)
  case true =>
   simp only[rU,qO,aA,ak,h1,h2,h3,EW,simprocAttr];exact⟨_,⟨[],0,1,rfl,by simp⟩,rfl⟩
  cases h4:v.2 != 0
  case true =>
   simp only[rU,qO,aA,ak,aF,an,qd,h1,h2,h3,h4,EW,simprocAttr];exact⟨_,⟨[],0,v.2,rfl,by simp⟩,rfl⟩
  simp only[decide_eq_false_iff_not] at h2 h3;obtain⟨m,rfl⟩:∃m:Nat,many=m:=⟨many.toNat,by omega⟩
  have g2:decide ((m:Int)<1)=false:=by simp; omega
  have g3:decide (64<(m:Int))=false:=by simp; omega
  have lb:=fun {k Q} hr=>Om (t:=t) (n:=v.1) (Q:=Q) hd (m:=m) (by omega) (by omega) (k:=k) hr m dZ [] (by simp)
  simp only[YQ,List.map_nil,List.length_nil] at lb;simp only[rU,qO,aA,ak,aF,an,qd,h1,g2,g3,h4,EW,simprocAttr];refine lb (fun out x ho=>?_)
  simp only[qO,EW,simprocAttr];exact⟨_,⟨out,x,0,rfl,ho⟩,rfl⟩
 obtain⟨_,⟨out,x,e,rfl,h1⟩,h3⟩:=key;exact⟨out,x,e,ai h3,h1⟩
section
variable {f:aa} {o:dG} {n:Node} {Q:ae×aj->Prop}
abbrev wkM(f:aa)(o:dG)(n:Node):aj:=[.cells (aR f),.cells (bB o),.cells kj,.cells iZ,.cells (ak f.s.now),.cells (an n)]
def YW{l:List ct}(hl:l.length<=64){nx:Int}{k:List K}
  (hx:∀(S:List Bytes) z,∃r,Q r/\kr (ag aH) [.bl 4 10,.bl 5 7] 0 k ⟨.exit 1,(2,.ptr 0 0)::(4,.ptr 2 0)::(5,.ptr 3 0)::(11,cT l)::(12,.int .i64 nx)::(14,.slice (.own 6) (S.map ae.str))::z,wkM f o n++[.tick 1 S.length]⟩=some r) :
  ∃r,Q r/\bS (ag aH) [.bl 4 10,.bl 5 7] 0 k (.loop [2,4,5,11,12,14,15] YB) [(2,.ptr 0 0),(4,.ptr 2 0),(5,.ptr 3 0),(11,cT l),(12,.int .i64 nx),(14,.slice (.own 6) []),(15,.int .i64 0)] (wkM f o n++[.tick 1 0])=some r:=by
 refine di (xs:=l) (by omega) (fun m (S:List Bytes)=>S.length<=m) (fun S i=>[(2,.ptr 0 0),(4,.ptr 2 0),(5,.ptr 3 0),(11,cT l),(12,.int .i64 nx),(14,.slice (.own 6) (S.map ae.str)),(15,.int .i64 i)]) (fun S=>wkM f o n++[.tick 1 S.length]) Q (fun S hS=>?_) (fun pre e post S h hx' hlt hw h0 hm hS hi=>?_) [] (Nat.le_refl _)
 ·simp only[wkM,aR,bB,kj,iZ,ak,an,List.cons_append,List.nil_append] at hx ⊢;simp only[Gj,Int.lt_irrefl,EW,simprocAttr];exact hx S _
 ·have hp:=(List.getElem?_eq_some_iff.1 hx').1;have i1:=hi (S++[e.name]) (by simp; omega)
  have r1:aP (S.length+1) 16=True:=jx;simp only[wkM,aR,bB,kj,iZ,ak,an,List.cons_append,List.nil_append,List.map_append,List.map_cons,List.map_nil,List.length_append,List.length_cons,List.length_nil,Nat.zero_add] at i1 ⊢;simp only[Gj,hlt,hx',hw,h0,r1,cn,bU,EW,simprocAttr];exact i1
end
def c51{K:Nat}(f:aa)(o:dG)(hf:FB K f)(hK:K<=89000)(ho:p6 o):p7 K f 51 [.agg (aR f),.agg (bB o)]:=by
 have hr:=hf.ok.rt;have h200:=hr.sz.nodes;have hp:o.path.length<=100000:=by have:=ho.path; omega
 have q3:=fun M=>Xb f.s.now.nodes f.s.now.next f.s.now.af o.path hr.small hp M
 generalize u9 f.s.now.nodes o.path=w at q3;have qg:=fun M=>tP f.s.now.nodes f.s.now.next f.s.now.af w.1 (by omega) M
 generalize (find f.s.now.nodes w.1).getD Node.zero=n at qg;have q4:=Xq;simp only[bj,cI,bg,bc,List.map_nil,aF,an] at q4 qg;have back:FB (K+200) f:=hf.mono (by omega)
 cases h0:w.2 != 0
 case true =>
  refine⟨f,cI w.2,ai ?_,back,id⟩;simp only[rV,Gj,aR,bB,bj,cI,bg,bc,h0,q3,q4,EW,simprocAttr]
 cases h1:o.kind==1
 case true =>
  refine⟨f,⟨0,w.1,n.kind,0,0,[],[]⟩,ai ?_,back,id⟩;simp only[rV,Gj,aR,bB,bj,cI,bg,bc,h0,h1,q3,qg,EW,simprocAttr]
 cases h2:o.kind==7
 case true =>
  obtain⟨a,qa⟩:=acC n;have q5:=cP qa;simp only[aF,an] at q5;refine⟨f,⟨0,w.1,n.kind,n.bE,a,[],[]⟩,ai ?_,back,id⟩;simp only[rV,Gj,aR,bB,bj,cI,bg,bc,h0,h1,h2,q3,qg,q5,EW,simprocAttr]
 cases h3:o.kind==6
 case true =>
  obtain⟨l,nx,e,qa,hl⟩:=aiX f.s.now w.1 o.n o.m hr;have q5:=cP qa;simp only[aA,ak] at q5;cases h4:e != 0
  case true =>
   refine⟨f,cI e,ai ?_,back,id⟩;simp only[rV,Gj,aR,bB,bj,cI,bg,bc,h0,h1,h2,h3,h4,q3,q4,q5,qg,EW,simprocAttr]
  have key:∃r:ae×aj,(∃a,r=(.tuple [.agg (aR f),.agg (bj a)],[]))/\bS (ag aH) rV.results 0 [] rV.body (bW 0 [.agg (aR f),.agg (bB o)]) []=some r:=by
   have la:=fun {k Q} hx=>YW (f:=f) (o:=o) (n:=n) (Q:=Q) hl (nx:=nx) (k:=k) hx
   simp only[wkM,aR,bB,kj,iZ,ak,an,List.cons_append,List.nil_append] at la;simp only[rV,Gj,aR,bB,bj,cI,bg,bc,h0,h1,h2,h3,h4,q3,q5,qg,EW,simprocAttr];refine la (fun S z=>?_)
   simp only[Gj,EW,simprocAttr];exact⟨_,⟨⟨0,0,0,nx,0,S,[]⟩,rfl⟩,rfl⟩
  obtain⟨_,⟨a,rfl⟩,h5⟩:=key;exact⟨f,a,ai h5,back,id⟩
 cases h4:o.kind==8
 case true =>
  have q5:=fun M=>alc f.s.now.nodes f.s.now.next f.s.now.af f.holds o.aV o.handle w.1 (by omega) (by have:=hf.ok.hlen; omega) M
  obtain⟨g1,g2⟩:=Po (t:=f.s.now) hf.ok.holds hf.ok.hlen o.aV o.handle w.1;have g3:∀y,y∈(mh ⟨f.s.now.nodes,f.s.now.next,f.s.now.af⟩ f.holds o.aV o.handle w.1).1->y∈f.holds\/j5 f.s.now.nodes y.ino:=fun y hy=>HJ (t:=f.s.now) (by obtain⟨dep,g⟩:=hr; exact g.kind) f.holds o.aV o.handle w.1 hy
  change ko (mh ⟨f.s.now.nodes,f.s.now.next,f.s.now.af⟩ f.holds o.aV o.handle w.1).1 at g1
  change(mh ⟨f.s.now.nodes,f.s.now.next,f.s.now.af⟩ f.holds o.aV o.handle w.1).1.length<=64 at g2
  generalize mh ⟨f.s.now.nodes,f.s.now.next,f.s.now.af⟩ f.holds o.aV o.handle w.1=v at q5 g1 g2 g3
  cases h5:v.2 != 0
  ·refine⟨⟨f.s,v.1,f.bt⟩,⟨0,w.1,0,0,0,[],[]⟩,ai ?_,hf.set g1 g2,fun h y hy=>(g3 y hy).elim (h y) id⟩
   simp only[rV,Gj,aR,bB,bj,cI,bg,bc,h0,h1,h2,h3,h4,h5,q3,q5,qg,EW,simprocAttr]
  ·refine⟨f,cI v.2,ai ?_,back,id⟩;simp only[rV,Gj,aR,bB,bj,cI,bg,bc,h0,h1,h2,h3,h4,h5,q3,q4,q5,qg,EW,simprocAttr]
 cases h5:o.kind==13
 case true =>
  obtain⟨l,e,qa,hl,hl'⟩:=aiZ f.s.now f.bt w.1 o.n o.m (by omega) (fun n hn=>by have:=(hr.Qx hn).1; omega) hf.ok.bt hf.ok.jN
  have q5:=cP qa;obtain⟨g,a,qd,hg⟩:=De f f.s.now l e ⟨0,w.1,0,0,0,[],[]⟩ hf hK hr hl hl' (fun _ _ h=>h)
  have q7:=cP qd;simp only[aA,ak,aR,bj,bg,bc,List.map_nil] at q5 q7;refine⟨g,a,ai ?_,hg⟩;simp only[rV,Gj,aR,bB,bj,cI,bg,bc,h0,h1,h2,h3,h4,h5,q3,q5,q7,qg,EW,simprocAttr]
 obtain⟨u,i,e,qa,e1,e2,e3,e4⟩:=ai0 f.s w.1 (by omega) hf.ok.taken
 have q5:=cP qa;simp only[aE] at q5;cases h6:e != 0
 ·refine⟨⟨u,f.holds,f.bt⟩,⟨0,0,0,i,0,[],[]⟩,ai ?_,⟨⟨by simp only[e1]; exact hr,by simp only[e1,e2]; exact hf.ok.len,by simp only[e3]; exact hf.ok.bq,by simp only[e3]; exact hf.ok.ub,e4,hf.ok.holds,hf.ok.hlen,hf.ok.bt,hf.ok.jN⟩,by have:=hf.past; simp only[e3]; omega⟩,fun h y hy=>by simp only[e1]; exact h y hy⟩
  simp only[rV,Gj,aR,bB,bj,cI,bg,bc,h0,h1,h2,h3,h4,h5,h6,q3,q5,qg,EW,simprocAttr]
 ·refine⟨f,cI e,ai ?_,back,id⟩;simp only[rV,Gj,aR,bB,bj,cI,bg,bc,h0,h1,h2,h3,h4,h5,h6,q3,q4,q5,qg,EW,simprocAttr]
end
section
attribute [local irreducible] bS cz fu gK bG kr ag ar aQ aG
section
variable {data:Bytes} {dZ:Nat} {Q:ae×aj->Prop}
def On(hf:dZ+data.length<=100000){k:List K}
  (hx:∀(v:Nat) (out:Bytes) z,dZ+data.length<=out.length->out.length<=100000->∃r,Q r/\kr (ag aH) [.tmp 6] 0 k ⟨.exit 0,(1,.int .i64 dZ)::(2,bc data)::(7,.aW 0 v 1 0 out.length)::z,[.arr 1 v (out.map hZ)]⟩=some r) :
  ∀(d v:Nat)(out:Bytes),dZ+data.length-out.length=d->out.length<=100000->∃r,Q r/\bS (ag aH) [.tmp 6] 0 k (.loop [1,2,7] zJ) [(1,.int .i64 dZ),(2,bc data),(7,.aW 0 v 1 0 out.length)] [.arr 1 v (out.map hZ)]=some r:=by
 have w1:IntKind.i64.wrap ((dZ:Int)+(data.length:Int))=((dZ+data.length:Nat):Int):=by rw[cL (by omega) (by omega)]; rfl
 intro d;induction d with
 |zero =>
  intro v out h1 h2;rw[aC];have e1:((out.length:Int)<((dZ+data.length:Nat):Int))=False:=Zh;simp only[Ah,w1,e1,Nat.sub_zero,EW,simprocAttr];exact hx v out _ (by omega) h2
 |succ d ih =>
  intro v out h1 h2;rw[aC];have e1:((out.length:Int)<((dZ+data.length:Nat):Int))=True:=nj;have r1:aP (out.length+1) 1=True:=jx;have u0:hZ 0 = .int .u8 0:=rfl;have i1:=ih (v+1) (out++[0]) (by simp; omega) (by simp; omega)
  simp only[List.map_append,List.map_cons,List.map_nil,List.length_append,List.length_cons,List.length_nil,Nat.zero_add,u0] at i1;simp only[Ah,w1,e1,r1,Nat.sub_zero,EW,simprocAttr];exact i1
def Oo(hf:dZ+data.length<=100000){v L:Nat}(hL:dZ+data.length<=L){k:List K}
  (hx:∀(out:Bytes) z,out.length=L->∃r,Q r/\kr (ag aH) [.tmp 6] 0 k ⟨.exit 2,(1,.int .i64 dZ)::(2,bc data)::(7,.aW 0 v 1 0 L)::z,[.arr 1 v (out.map hZ)]⟩=some r) {out:Bytes} (ho:out.length=L) :
  ∃r,Q r/\bS (ag aH) [.tmp 6] 0 k (.loop [1,2,7,8] RY) [(1,.int .i64 dZ),(2,bc data),(7,.aW 0 v 1 0 L),(8,.int .i64 0)] [.arr 1 v (out.map hZ)]=some r:=by
 refine di (xs:=data) (by omega) (fun _ (out:Bytes)=>out.length=L) (fun _ i=>[(1,.int .i64 dZ),(2,bc data),(7,.aW 0 v 1 0 L),(8,.int .i64 i)]) (fun out=>[.arr 1 v (out.map hZ)]) Q (fun out ho=>?_) (fun pre x post out e hx' hlt hw h0 hm ho hi=>?_) out ho
 ·simp only[Ah,Int.lt_irrefl,EW,simprocAttr];exact hx out _ ho
 ·have hp:=(List.getElem?_eq_some_iff.1 hx').1;have w1:IntKind.i64.wrap ((dZ:Int)+(pre.length:Int))=((dZ+pre.length:Nat):Int):=by rw[cL (by omega) (by omega)]; rfl
  have e1:(((dZ+pre.length:Nat):Int)<(L:Int))=True:=nj;have e2:(((dZ+pre.length:Nat):Int)<0)=False:=Zh;have sU:∀(ds:List UInt8)(b:Nat)(d x:UInt8),dA (ds.map hZ) b (putCells (.int .u8 d.toNat) 0 [.int .u8 x.toNat])=(ds.set b x).map hZ:=TW;have e3:(dZ+pre.length<out.length)=True:=nj;have e4:(dZ+pre.length<L)=True:=nj;obtain⟨d,hb⟩:∃d,out[dZ+pre.length]?=some d:=⟨_,List.getElem?_eq_getElem (by omega)⟩
  have i1:=hi (out.set (dZ+pre.length) x) (by simp[ho])
  simp only[Ah,hlt,hx',hw,h0,w1,e1,e2,e3,e4,hb,ho,sU,hZ,Nat.sub_zero,EW,simprocAttr];exact i1
end
def ai2(file:Bytes)(dZ:Nat)(data:Bytes)(hf:file.length<=100000)(hr:dZ+data.length<=100000):∃out:Bytes,ag aH 117 [bc file,.int .i64 dZ,bc data] []=some (bc out,[])/\out.length<=100000:=by
 have key:∃r:ae×aj,(∃out:Bytes,r=(bc out,[])/\out.length<=100000)/\bS (ag aH) x7.results 0 [] x7.body (bW 0 [bc file,.int .i64 dZ,bc data]) []=some r:=by
  have r1:aP file.length 1=True:=jx;cases h1:(data.length:Int)==0
  ·have la:=fun {k Q} hx=>On (data:=data) (dZ:=dZ) (Q:=Q) hr (k:=k) hx _ 0 file rfl (by omega)
   have hk:∀ {k:List K} {a b c d:ae} {M:aj},bS (ag aH) [.tmp 6] 0 k (.loop [1,2,7] zJ) [(1,a),(2,b),(7,c),(14,d)] M=bS (ag aH) [.tmp 6] 0 k (.loop [1,2,7] zJ) [(1,a),(2,b),(7,c)] M:=by
    intros; rw[aC,aC]; rfl
   simp only[x7,Ah,h1,r1,EW,simprocAttr];rw[hk];refine la (fun v out z h2 h3=>?_)
   have lb:=fun {k Q} hx=>Oo (data:=data) (dZ:=dZ) (Q:=Q) hr (v:=v) h2 (k:=k) hx (out:=out) rfl
   simp only[Ah,EW,simprocAttr];refine lb (fun out' z h4=>?_)
   have htk:(out'.map hZ).take out.length=out'.map hZ:=List.take_of_length_le (by simp[h4])
   simp only[Ah,h4,htk,Nat.sub_zero,EW,simprocAttr];exact⟨_,⟨out',rfl,by omega⟩,rfl⟩
  ·have htk:(file.map hZ).take file.length=file.map hZ:=List.take_of_length_le (by simp)
   simp only[x7,Ah,h1,r1,htk,Nat.sub_zero,EW,simprocAttr];exact⟨_,⟨file,rfl,by omega⟩,rfl⟩
 obtain⟨_,⟨out,rfl,h1⟩,h3⟩:=key;exact⟨out,ai h3,h1⟩
def c52{K:Nat}(f:aa)(o:dG)(hf:FB K f)(hK:K<=89000)(ho:p6 o):p7 K f 52 [.agg (aR f),.agg (bB o)]:=by
 have hr:=hf.ok.rt;have h200:=hr.sz.nodes;have hod:=ho.data;have q4:=Xq;simp only[bj,cI,bg,bc,List.map_nil] at q4;have back:FB (K+200) f:=hf.mono (by omega)
 cases h0:o.kind==9
 case true =>
  obtain⟨u,l,e,qa,g1,g2,g3,g4⟩:=acD f.s.now f.holds o.aV o.handle hr hf.ok.holds hf.ok.hlen;obtain⟨s,qp,hs⟩:=c56 f.s u hr g1 hf.ok.len hf.ok.taken hf.ok.bq;have q1:=cP qa;have q2:=cP qp;simp only[aA,ak,aE] at q1 q2;cases h1:e != 0
  ·refine⟨⟨s,l,f.bt⟩,cI 0,ai ?_,hf.Zt hK g1 hs g2 g3 hf.ok.bt hf.ok.jN,hs.hok g4⟩;simp only[tE,Iy,aR,bB,bj,cI,bg,bc,h0,h1,q1,q2,EW,simprocAttr]
  ·refine⟨f,cI e,ai ?_,back,id⟩;simp only[tE,Iy,aR,bB,bj,cI,bg,bc,h0,h1,q1,q4,EW,simprocAttr]
 obtain⟨x,e,qa⟩:=ai1 f.holds o.aV o.handle hf.ok.hlen;have q1:=cP qa;cases h1:e != 0
 case true =>
  refine⟨f,cI e,ai ?_,back,id⟩;simp only[tE,Iy,aR,bB,bj,cI,bg,bc,h0,h1,q1,q4,EW,simprocAttr]
 have qg:=fun M=>tP f.s.now.nodes f.s.now.next f.s.now.af x (by omega) M
 have hz:(find f.s.now.nodes x).getD Node.zero=aD f.s.now.nodes x:=rfl;rw[hz] at qg;obtain⟨s1,s2⟩:=sn hf.ok x;generalize aD f.s.now.nodes x=n at qg s1 s2;simp only[aF,an] at qg;have bad:∀e,ag aH 52 [.agg (aR f),.agg (bB o)] []=some (.tuple [.agg (aR f),.agg (bj (cI e))],[])->p7 K f 52 [.agg (aR f),.agg (bB o)]:=fun e h=>⟨f,cI e,h,back,id⟩
 cases h2:decide (o.n<0)
 case true =>
  refine bad 1 (ai ?_);simp only[tE,Iy,aR,bB,bj,cI,bg,bc,h0,h1,h2,q1,q4,qg,EW,simprocAttr]
 have hn0:0<=o.n:=by simpa using h2
 obtain⟨m1,m2⟩:=sk hn0 n.data.length;generalize tX o.n n.data.length=mn at m1 m2;have t1:((mn:Int)<=(n.data.length:Int))=True:=nj;have ta:(n.data.map hZ).take n.data.length=n.data.map hZ:=List.take_of_length_le (by simp)
 cases h3:o.kind==10
 case true =>
  have h3':(o.kind==11)=false:=by simp at h3 ⊢; omega
  cases h4:decide (o.m<0)
  case true =>
   refine bad 1 (ai ?_);simp only[tE,Iy,aR,bB,bj,cI,bg,bc,h0,h1,h2,h3,h3',h4,q1,q4,qg,EW,simprocAttr]
  cases h5:decide (4096<o.m)
  case true =>
   refine bad 1 (ai ?_);simp only[tE,Iy,aR,bB,bj,cI,bg,bc,h0,h1,h2,h3,h3',h4,h5,q1,q4,qg,EW,simprocAttr]
  simp only[decide_eq_false_iff_not] at h4 h5;have g4:decide (o.m<0)=false:=by simp; omega
  have g5:decide (4096<o.m)=false:=by simp; omega
  have w1:IntKind.i64.wrap ((mn:Int)+o.m)=(mn:Int)+o.m:=cL (by omega) (by omega)
  obtain⟨p1,p2⟩:=sk (a:=(mn:Int)+o.m) (by omega) n.data.length
  have p3:mn<=tX ((mn:Int)+o.m) n.data.length:=by
   have:=p1; split at this<;>omega
  generalize tX ((mn:Int)+o.m) n.data.length=mx at p1 p2 p3;have t2:((mx:Int)<=(n.data.length:Int))=True:=nj;have t3:((mn:Int)<=(mx:Int))=True:=nj;refine⟨f,⟨0,x,0,0,0,[],(n.data.take mx).drop mn⟩,ai ?_,back,id⟩;simp only[tE,Iy,aR,bB,bj,cI,bg,bc,h0,h1,h2,h3,h3',g4,g5,q1,qg,m1,p1,w1,t1,t2,t3,ta,bX,List.map_drop,EW,simprocAttr]
 cases h6:o.kind==11
 case true =>
  cases h7:decide (4096<o.n)
  case true =>
   refine bad 1 (ai ?_);simp only[tE,Iy,aR,bB,bj,cI,bg,bc,h0,h1,h2,h3,h6,h7,q1,q4,qg,EW,simprocAttr]
  have h7':¬4096<o.n:=by simpa using h7
  obtain⟨m,hm⟩:∃m:Nat,o.n=m:=⟨o.n.toNat,by omega⟩
  rw[hm] at h2 h7;have w1:IntKind.i64.wrap ((m:Int)+(o.data.length:Int))=(m:Int)+(o.data.length:Int):=cL (by omega) (by omega)
  cases h8:decide (4096<(m:Int)+(o.data.length:Int))
  case true =>
   refine bad 2 (ai ?_);simp only[tE,Iy,aR,bB,bj,cI,bg,bc,hm,h0,h1,h2,h3,h6,h7,h8,w1,q1,q4,qg,EW,simprocAttr]
  obtain⟨d,ql,hd⟩:=ai2 n.data m o.data (by omega) (by omega)
  have q5:=cP ql;have h8':¬4096<(m:Int)+(o.data.length:Int):=by simpa using h8
  have q6:=fun M=>adX f.s.now.nodes f.s.now.next f.s.now.af x d hr.small hd M
  have hv:=hr.put x d;have hkf:=wH hr x d;generalize j9 f.s.now x d=v at q6 hv hkf;obtain⟨g,a,qd,hg⟩:=De f v.1 f.bt v.2 ⟨0,x,0,0,d.length,[],[]⟩ hf hK hv hf.ok.bt hf.ok.jN (fun y _ h=>hkf.2 _ h)
  have q7:=cP qd;simp only[aA,ak,aR,bj,bg,bc,List.map_nil] at q5 q6 q7;refine⟨g,a,ai ?_,hg⟩;simp only[tE,Iy,aR,bB,bj,cI,bg,bc,hm,h0,h1,h2,h3,h6,h7,h8,w1,q1,q5,q6,q7,qg,EW,simprocAttr]
 have tl1:(List.take mn (n.data.map hZ)).length=mn:=by simp; omega
 have tl2:(List.take mn n.data).length=mn:=by simp; omega
 have q6:=fun M=>adX f.s.now.nodes f.s.now.next f.s.now.af x (n.data.take mn) hr.small (by simp; omega) M
 have hv:=hr.put x (n.data.take mn);have hkf:=wH hr x (n.data.take mn);generalize j9 f.s.now x (n.data.take mn)=v at q6 hv hkf;obtain⟨g,a,qd,hg⟩:=De f v.1 f.bt v.2 ⟨0,x,0,0,(n.data.take mn).length,[],[]⟩ hf hK hv hf.ok.bt hf.ok.jN (fun y _ h=>hkf.2 _ h)
 have q7:=cP qd;simp only[aA,ak,aR,bj,bg,bc,List.map_nil,List.map_take,tl2] at q6 q7;refine⟨g,a,ai ?_,hg⟩;simp only[tE,Iy,tl1,aR,bB,bj,cI,bg,bc,h0,h1,h2,h3,h6,q1,q6,q7,qg,m1,t1,bX,EW,simprocAttr]
end
section
attribute [local irreducible] bS cz fu gK bG kr ag ar aQ aG
section
variable {s:c8} {Q:ae×aj->Prop} {id:Int}
abbrev Ig(s:c8):aj:=[.cells (aE s),.cells [.slice .c0 [],.int .i64 0,.int .i64 0,.int .i64 0,.slice .c0 [],.slice .c0 [],.slice .c0 [],.int .i64 0]]
def Tm(hk:s.taken.length<=16){k:List K}
  (hx:∀(ts:List eX) z,ts.length<=16->∃r,Q r/\kr (ag aH) [.bl 4 8,.tmp 5] 0 k ⟨.exit 0,(1,.int .i64 id)::(2,.ptr 0 0)::(4,.ptr 1 0)::(6,.slice (.own 2) (ts.map eA))::z,Ig s++[.tick 3 ts.length]⟩=some r) :
  ∃r,Q r/\bS (ag aH) [.bl 4 8,.tmp 5] 0 k (.loop [1,2,4,6,7] YF) [(1,.int .i64 id),(2,.ptr 0 0),(4,.ptr 1 0),(6,.slice (.own 2) []),(7,.int .i64 0)] (Ig s++[.tick 3 0])=some r:=by
 refine di (xs:=s.taken) (by omega) (fun m (ts:List eX)=>ts.length<=m) (fun ts i=>[(1,.int .i64 id),(2,.ptr 0 0),(4,.ptr 1 0),(6,.slice (.own 2) (ts.map eA)),(7,.int .i64 i)]) (fun ts=>Ig s++[.tick 3 ts.length]) Q (fun ts hK=>?_) (fun pre x post ts e hx' hlt hw h0 hm hK hi=>?_) [] (Nat.le_refl _)
 ·simp only[Ig,aE,List.cons_append,List.nil_append] at hx ⊢;simp only[Uh,Int.lt_irrefl,EW,simprocAttr];exact hx ts _ (by omega)
 ·have hp:=(List.getElem?_eq_some_iff.1 hx').1;have i1:=hi ts (by omega)
  have i2:=hi (ts++[x]) (by simp; omega)
  have r1:aP (ts.length+1) 24=True:=jx;simp only[Ig,aE,List.cons_append,List.nil_append,List.map_append,List.map_cons,List.map_nil,List.length_append,List.length_cons,List.length_nil,Nat.zero_add,eA,cS] at i1 i2 ⊢;cases h1:x.id != id<;>simp only[Uh,hlt,hx',hw,h0,h1,r1,eA,cS,EW,simprocAttr]<;>first|exact i1|exact i2
def Tn(hp:s.bq.length<=90000){ts:List eX}(hk:ts.length<=16){k:List K}
  (hx:∀(P:List iy) z,P.length<=s.bq.length->(∀p,p∈P->p∈s.bq)->∃r,Q r/\kr (ag aH) [.bl 4 8,.tmp 5] 0 k ⟨.exit 2,(2,.ptr 0 0)::(4,.ptr 1 0)::(6,.slice (.own 2) (ts.map eA))::(8,.slice (.own 3) (P.map eR))::z,Ig s++[.tick 3 ts.length,.tick 8 P.length]⟩=some r) :
  ∃r,Q r/\bS (ag aH) [.bl 4 8,.tmp 5] 0 k (.loop [2,4,6,8,9] YG) [(2,.ptr 0 0),(4,.ptr 1 0),(6,.slice (.own 2) (ts.map eA)),(8,.slice (.own 3) []),(9,.int .i64 0)] (Ig s++[.tick 3 ts.length,.tick 8 0])=some r:=by
 refine di (xs:=s.bq) (by omega) (fun m (P:List iy)=>P.length<=m/\∀p,p∈P->p∈s.bq) (fun P i=>[(2,.ptr 0 0),(4,.ptr 1 0),(6,.slice (.own 2) (ts.map eA)),(8,.slice (.own 3) (P.map eR)),(9,.int .i64 i)]) (fun P=>Ig s++[.tick 3 ts.length,.tick 8 P.length]) Q (fun P hP=>?_) (fun pre x post P e hx' hlt hw h0 hm hP hi=>?_) [] ⟨Nat.le_refl _,fun p h=>by cases h⟩
 ·simp only[Ig,aE,List.cons_append,List.nil_append] at hx ⊢;simp only[Uh,Int.lt_irrefl,EW,simprocAttr];exact hx P _ hP.1 hP.2
 ·have hp':=(List.getElem?_eq_some_iff.1 hx').1;have i1:=hi P ⟨by omega,hP.2⟩
  have i2:=hi (P++[x]) ⟨by simp; omega,fun p h=>by
   rcases List.mem_append.1 h with h|h
   ·exact hP.2 p h
   ·rw[List.mem_singleton.1 h]; exact hm⟩
  have qw:=fun M=>adY ts x.dZ x.xH (by omega) M
  generalize sP ts x.dZ x.xH=w at qw;have r1:aP (P.length+1) 96=True:=jx;simp only[Ig,aE,List.cons_append,List.nil_append,List.map_append,List.map_cons,List.map_nil,List.length_append,List.length_cons,List.length_nil,Nat.zero_add,eR,fT,an] at i1 i2 ⊢;cases w<;>simp only[Uh,hlt,hx',hw,h0,qw,r1,eR,fT,an,EW,simprocAttr]<;>first|exact i1|exact i2
end
def c54(s:c8)(id:Int)(hk:s.taken.length<=16)(hp:s.bq.length<=90000):∃u e,ag aH 54 [.agg (aE s),.int .i64 id] []=some (.tuple [.agg (aE u),.int .i64 e],[])/\u.now=s.now/\u.since=s.since/\u.taken.length<=16/\u.bq.length<=s.bq.length/\∀p,p∈u.bq->p∈s.bq:=by
 have key:∃r:ae×aj,(∃u e,r=(.tuple [.agg (aE u),.int .i64 e],[])/\u.now=s.now/\u.since=s.since/\u.taken.length<=16/\u.bq.length<=s.bq.length/\∀p,p∈u.bq->p∈s.bq)/\bS (ag aH) Lc.results 0 [] Lc.body (bW 0 [.agg (aE s),.int .i64 id]) []=some r:=by
  have la:=fun {k Q} hx=>Tm (s:=s) (Q:=Q) (id:=id) hk (k:=k) hx
  simp only[Ig,aE,List.cons_append,List.nil_append] at la;simp only[Lc,Uh,aE,EW,simprocAttr];refine la (fun ts z hK=>?_)
  cases h1:(ts.length:Int)==(s.taken.length:Int)
  ·have lb:=fun {k Q} hx=>Tn (s:=s) (Q:=Q) hp (ts:=ts) hK (k:=k) hx
   simp only[Ig,aE,List.cons_append,List.nil_append] at lb;simp only[Uh,h1,EW,simprocAttr];refine lb (fun P z h2 h3=>?_)
   simp only[Uh,EW,simprocAttr];exact⟨_,⟨⟨s.now,s.tick,s.since,P,ts,s.next⟩,0,rfl,rfl,rfl,hK,h2,h3⟩,rfl⟩
  ·simp only[Uh,h1,EW,simprocAttr];exact⟨_,⟨s,100,rfl,rfl,rfl,hk,Nat.le_refl _,fun p h=>h⟩,rfl⟩
 obtain⟨_,⟨u,e,rfl,h1⟩,h3⟩:=key;exact⟨u,e,ai h3,h1⟩
def akz(l:List Node)(n:Node)(hn:l.length<=100000):∃m,ag aH 252 [au l,aF n] []=some (au m,[])/\m.length=l.length+1/\∀x,x∈m->x=n\/x∈l:=by
 have key:∃r:ae×aj,(∃m,r=(au m,[])/\m.length=l.length+1/\∀x,x∈m->x=n\/x∈l)/\bS (ag aH) Bv.results 0 [] Bv.body (bW 0 [au l,aF n]) []=some r:=by
  simp only[Bv,QL,aF,an,EW,simprocAttr]
  have fin:∀(i:Nat),i<=l.length->∃m:List Node,m.length=l.length+1/\(∀x,x∈m->x=n\/x∈l)/\l.take i++n::l.drop i=m:=fun i hi=>⟨_,by simp; omega,fun x hx=>by
   rcases List.mem_append.1 hx with hx|hx
   ·exact .inr (List.mem_of_mem_take hx)
   ·rcases List.mem_cons.1 hx with hx|hx
    ·exact .inl hx
    ·exact .inr (List.mem_of_mem_drop hx),rfl⟩
  refine di (xs:=l) (by omega) (fun _ (_:Unit)=>True) (fun _ i=>[(0,au l),(3,.ptr 0 0),(5,.int .i64 i)]) (fun _=>[.cells [.int .i64 n.ino,.int .i64 n.kind,.int .i64 n.bE,bc n.data,cT n.av,.int .i64 n.up]]) _ (fun _ _=>?_) (fun pre x post _ e hx hlt hw h0 hm _ hi=>?_) () trivial
  ·obtain⟨m,m1,m2,m3⟩:=fin l.length (Nat.le_refl _);have r1:aP l.length 80=True:=jx;have r2:aP (l.length+1) 80=True:=jx;have a1:(l.map aF).take l.length=l.map aF:=by rw[<-List.map_take,List.take_length]
   have a2:(l.map aF).drop l.length=[]:=by rw[<-List.map_drop,List.drop_length]; rfl
   simp only[QL,Int.lt_irrefl,Int.le_refl,a1,a2,r1,r2,EW,simprocAttr];refine⟨_,⟨m,rfl,m1,m2⟩,?_⟩;rw[<-m3]; simp[aF,an]
  ·have hp:=(List.getElem?_eq_some_iff.1 hx).1;obtain⟨m,m1,m2,m3⟩:=fin pre.length (by omega)
   have i1:=hi () trivial;have r1:aP pre.length 80=True:=jx;have r2:aP (pre.length+1) 80=True:=jx;obtain⟨B,hB⟩:∃B,x::post=B:=⟨_,rfl⟩;have t1:l.take pre.length=pre:=by rw[e]; simp
   have t2:l.drop pre.length=B:=by rw[e,<-hB]; simp
   have t3:pre.length+B.length=l.length:=by rw[e,<-hB]; simp
   have r3:aP (pre.length+1+B.length) 80=True:=jx;have a1:(l.map aF).take pre.length=pre.map aF:=by rw[<-List.map_take,t1]
   have a2:(l.map aF).drop pre.length=B.map aF:=by rw[<-List.map_drop,t2]
   have a3:((pre.length:Int)<=(l.length:Int))=True:=nj;have a4:(l.map aF).take l.length=l.map aF:=by rw[<-List.map_take,List.take_length]
   cases h1:decide (x.ino<=n.ino)<;>simp only[QL,hlt,hx,hw,h0,h1,aF,an,EW,simprocAttr]
   ·simp only[QL,a1,a2,a3,a4,r1,r2,r3,Int.le_refl,EW,simprocAttr];refine⟨_,⟨m,rfl,m1,m2⟩,?_⟩;rw[<-m3,t1,t2]; simp[aF,an]
   ·exact i1
 obtain⟨_,⟨m,rfl,h1⟩,h3⟩:=key;exact⟨m,ai h3,h1⟩
end
def Ql:List Node->List Bool->Nat
 |n::r,b::m=>(if b=true then 0 else n.av.length)+Ql r m
 |_,_=>0
def F8:∀(l:List Node)(m:List Bool)(i:Nat)(n:Node),l[i]?=some n->m[i]?=some false->Ql l (m.set i true)+n.av.length=Ql l m
 | [],m,i,n,h,_=>by simp at h
 |x::l,[],i,n,_,h=>by simp at h
 |x::l,b::m,0,n,h,h'=>by simp at h h'; subst h; subst h'; simp[Ql]; omega
 |x::l,b::m,i+1,n,h,h'=>by
  have:=F8 l m i n (by simpa using h) (by simpa using h')
  simp only[List.set_cons_succ,Ql]; omega
def Qm:∀(l:List Node)(m:List Bool),(∀n,n∈l->n.av.length<=64)->Ql l m<=64*l.length
 | [],m,_=>by simp[Ql]
 |x::l,[],_=>by simp[Ql]
 |x::l,b::m,h=>by
  have h1:=Qm l m fun n hn=>h n (List.mem_cons_of_mem _ hn)
  have h2:=h x List.mem_cons_self;simp only[Ql,List.length_cons]; split<;>omega
section
attribute [local irreducible] bS cz fu gK bG kr ag ar aQ aG
section
variable {l:List Node} {Q:ae×aj->Prop}
abbrev CB(l:List Node)(m:List Bool)(all:List Int):aj:=[.arr 1 0 (m.map ae.bool),.cells [au l,.int .i64 0,.int .i64 0],.tick 1 all.length]
abbrev Qa(n:Node):aM := .cells [.int .i64 n.ino,.int .i64 n.kind,.int .i64 n.bE,bc n.data,cT n.av,.int .i64 n.up]
def OA(hl:l.length<=100000){m:List Bool}{all:List Int}{i:Nat}{A B:List Node}{n:Node}(hs:l=A++n::B)(hA:∀x,x∈A->x.ino≠n.ino){k:List K}
  (hx:∀z,∃r,Q r/\kr (ag aH) [.tmp 4,.tmp 5] 0 k ⟨.exit 2,(0,au l)::(6,.aW 0 0 1 0 l.length)::(7,.ptr 1 0)::(8,.slice (.own 2) (all.map fF))::(9,.int .i64 i)::(10,.ptr 3 0)::(12,.int .i64 A.length)::z,CB l m all++[Qa n]⟩=some r) :
  ∀(d j:Nat),j+d=A.length->∃r,Q r/\bS (ag aH) [.tmp 4,.tmp 5] 0 k (.loop [0,6,7,8,9,10,12] Sh) [(0,au l),(6,.aW 0 0 1 0 l.length),(7,.ptr 1 0),(8,.slice (.own 2) (all.map fF)),(9,.int .i64 i),(10,.ptr 3 0),(12,.int .i64 j)] (CB l m all++[Qa n])=some r:=by
 have hl2:l.length=A.length+(B.length+1):=by rw[hs]; simp
 intro d;induction d with
 |zero =>
  intro j hj;obtain rfl:j=A.length:=by omega
  rw[aC];have b0:((A.length:Int)<0)=False:=by simp
  have hn:l[A.length]?=some n:=by rw[hs]; simp
  have e1:(n.ino != n.ino)=false:=by simp
  simp only[CB,Qa,List.cons_append,List.nil_append] at hx ⊢;simp only[td,b0,hn,e1,aF,an,EW,simprocAttr];exact hx _
 |succ d ih =>
  intro j hj;rw[aC];have b0:((j:Int)<0)=False:=by simp
  obtain⟨x,hx1⟩:∃x,A[j]?=some x:=⟨_,List.getElem?_eq_getElem (by omega)⟩
  have hn:l[j]?=some x:=by rw[hs,List.getElem?_append_left (by omega)]; exact hx1
  have e1:(x.ino != n.ino)=true:=by simpa using hA x (List.mem_of_getElem? hx1)
  have w1:IntKind.i64.wrap ((j:Int)+1)=((j+1:Nat):Int):=by rw[cL (by omega) (by omega)]; rfl
  have i1:=ih (j+1) (by omega)
  simp only[CB,Qa,List.cons_append,List.nil_append] at i1 ⊢;simp only[td,b0,hn,e1,w1,aF,an,EW,simprocAttr];exact i1
def OB{m:List Bool}{all:List Int}{i:Nat}{n:Node}(hn:n.av.length<=64)(ha:all.length<=10000000){k:List K}
  (hx:∀(S:List Int) z,S.length=all.length+n.av.length->∃r,Q r/\kr (ag aH) [.tmp 4,.tmp 5] 0 k ⟨.exit 4,(0,au l)::(6,.aW 0 0 1 0 l.length)::(7,.ptr 1 0)::(8,.slice (.own 2) (S.map fF))::(9,.int .i64 i)::z,CB l m S++[Qa n]⟩=some r) :
  ∃r,Q r/\bS (ag aH) [.tmp 4,.tmp 5] 0 k (.loop [0,6,7,8,9,10,13] Si) [(0,au l),(6,.aW 0 0 1 0 l.length),(7,.ptr 1 0),(8,.slice (.own 2) (all.map fF)),(9,.int .i64 i),(10,.ptr 3 0),(13,.int .i64 0)] (CB l m all++[Qa n])=some r:=by
 refine di (xs:=n.av) (by omega) (fun c (S:List Int)=>S.length=all.length+c) (fun S j=>[(0,au l),(6,.aW 0 0 1 0 l.length),(7,.ptr 1 0),(8,.slice (.own 2) (S.map fF)),(9,.int .i64 i),(10,.ptr 3 0),(13,.int .i64 j)]) (fun S=>CB l m S++[Qa n]) Q (fun S hS=>?_) (fun pre e post S h hx' hlt hw h0 hm hS hi=>?_) all rfl
 ·have:=fun z=>hx S ((10,.ptr 3 0)::z) hS
  simp only[CB,Qa,List.cons_append,List.nil_append] at this ⊢;simp only[td,Int.lt_irrefl,EW,simprocAttr];exact this _
 ·have hp:=(List.getElem?_eq_some_iff.1 hx').1;have i1:=hi (S++[e.ino]) (by simp; omega)
  have r1:aP (S.length+1) 8=True:=by
   simp only[eq_iff_iff,iff_true]; unfold aP; omega
  simp only[CB,Qa,List.cons_append,List.nil_append,List.map_append,List.map_cons,List.map_nil,List.length_append,List.length_cons,List.length_nil,Nat.zero_add,fF] at i1 ⊢;simp only[td,hlt,hx',hw,h0,r1,lR,cn,bU,EW,simprocAttr];exact i1
def OC(hl:l.length<=100000)(he:∀n,n∈l->n.av.length<=64){k:List K}
  (hx:∀(m:List Bool) z M,m.length=l.length->∃r,Q r/\kr (ag aH) [.tmp 4,.tmp 5] 0 k ⟨.exit 0,(0,au l)::(6,.aW 0 0 1 0 l.length)::z,.arr 1 0 (m.map ae.bool)::M⟩=some r)
  (hr:∀(m:List Bool) M,m.length=l.length->∃r,Q r/\kr (ag aH) [.tmp 4,.tmp 5] 0 k ⟨.ret,[(4,.aW 0 0 1 0 l.length),(5,.bool false)],.arr 1 0 (m.map ae.bool)::M⟩=some r) :
  ∀(d:Nat)(m:List Bool)(all:List Int)(i:Nat),m.length=l.length->i<=all.length->all.length+Ql l m<=7000000->all.length+Ql l m-i=d->∃r,Q r/\bS (ag aH) [.tmp 4,.tmp 5] 0 k (.loop [0,6,7,8,9] Sj) [(0,au l),(6,.aW 0 0 1 0 l.length),(7,.ptr 1 0),(8,.slice (.own 2) (all.map fF)),(9,.int .i64 i)] (CB l m all)=some r:=by
 intro d;induction d using Nat.strongRecOn with
 |_ d ih =>
  intro m all i hm hi hb hd;rw[aC];rcases Nat.lt_or_ge i all.length with h1|h1
  ·have e1:((i:Int)<(all.length:Int))=True:=nj;have e0:((i:Int)<0)=False:=by simp
   have w1:IntKind.i64.wrap ((i:Int)+1)=((i+1:Nat):Int):=by rw[cL (by omega) (by omega)]; rfl
   obtain⟨x,hx1⟩:∃x,all[i]?=some x:=⟨_,List.getElem?_eq_getElem h1⟩;have qg:=fun M=>tP l 0 0 x hl M
   cases hf:find l x with
   |none =>
    rw[hf] at qg;simp only[Option.getD_none,Option.isSome_none,aF,an,Node.zero,List.map_nil] at qg;simp only[CB,List.cons_append,List.nil_append] at hr ⊢;simp only[td,e1,e0,hx1,qg,fF,EW,simprocAttr];exact hr m _ hm
   |some n =>
    rw[hf] at qg;simp only[Option.getD_some,Option.isSome_some,aF,an] at qg;obtain⟨_,A,B,hs,hA⟩:=List.find?_eq_some_iff_append.1 hf;have hnm:n∈l:=by rw[hs]; simp
    have hne:=he n hnm
    have hA':∀y,y∈A->y.ino≠n.ino:=fun y hy hyn=>by
     have h2:=hA y hy;have h3:=(List.find?_eq_some_iff_append.1 hf).1;simp at h2 h3; omega
    have la:=fun {k} hx=>OA (l:=l) (Q:=Q) hl (m:=m) (all:=all) (i:=i) hs hA' (k:=k) hx A.length 0 (by omega)
    simp only[CB,Qa,List.cons_append,List.nil_append] at la ⊢;simp only[td,e1,e0,hx1,qg,fF,EW,simprocAttr];refine la (fun z=>?_)
    have hAl:A.length<l.length:=by rw[hs]; simp
    have a0:((A.length:Int)<0)=False:=by simp
    have a1:((A.length:Int)<(l.length:Int))=True:=nj;have a2:(A.length<l.length)=True:=nj;have a3:(A.length<m.length)=True:=nj;have hln:l[A.length]?=some n:=by rw[hs]; simp
    obtain⟨b,hmb⟩:∃b,m[A.length]?=some b:=⟨_,List.getElem?_eq_getElem (by omega)⟩
    cases b
    ·have hu:=F8 l m A.length n hln hmb;have lb:=fun {k} hx=>OB (l:=l) (Q:=Q) (m:=m.set A.length true) (all:=all) (i:=i) (n:=n) hne (by omega) (k:=k) hx
     simp only[CB,Qa,List.cons_append,List.nil_append] at lb;simp only[td,a0,a1,a2,a3,hmb,hm,uh,Nat.sub_zero,EW,simprocAttr];refine lb (fun S z hS=>?_)
     have i1:=ih _ (by omega) (m.set A.length true) S (i+1) (by simp[hm]) (by omega) (by omega) rfl
     simp only[CB] at i1;simp only[td,w1,EW,simprocAttr];exact i1
    ·have i1:=ih _ (by omega) m all (i+1) hm (by omega) hb rfl
     simp only[CB] at i1;simp only[td,a0,a1,a2,a3,hmb,hm,w1,Nat.sub_zero,EW,simprocAttr];exact i1
  ·have e1:((i:Int)<(all.length:Int))=False:=Zh;simp only[CB,List.cons_append,List.nil_append] at hx ⊢;simp only[td,e1,EW,simprocAttr];exact hx m _ _ hm
end
def ajY(l:List Node)(ino:Int)(hl:l.length<=100000)(he:∀n,n∈l->n.av.length<=64):∃(m:List Bool) (b:Bool),ag aH 192 [au l,.int .i64 ino] []=some (.tuple [.slice .sh (m.map ae.bool),.bool b],[])/\m.length=l.length:=by
 have key:∃r:ae×aj,(∃(m:List Bool) (b:Bool),r=(.tuple [.slice .sh (m.map ae.bool),.bool b],[])/\m.length=l.length)/\bS (ag aH) Bo.results 0 [] Bo.body (bW 0 [au l,.int .i64 ino]) []=some r:=by
  have r1:aP l.length 8=True:=jx
  have hrep:List.replicate l.length (ae.agg [ae.bool false]).norm=(List.replicate l.length false).map ae.bool:=by
   rw[List.map_replicate]; rfl
  have hu:=Qm l (List.replicate l.length false) he;have lc:=fun {k Q} hx hr=>OC (l:=l) (Q:=Q) hl he (k:=k) hx hr _ (List.replicate l.length false) [ino] 0 (by simp) (by simp) (by simp; omega) rfl
  simp only[CB,List.map_cons,List.map_nil,List.length_cons,List.length_nil,fF] at lc;simp only[Bo,td,r1,hrep,EW,simprocAttr];refine lc (fun m z M hm=>?_) (fun m M hm=>?_)
  ·have htk:(m.map ae.bool).take l.length=m.map ae.bool:=List.take_of_length_le (by simp[hm])
   simp only[td,hm,htk,Nat.sub_zero,EW,simprocAttr];exact⟨_,⟨m,true,rfl,hm⟩,rfl⟩
  ·have htk:(m.map ae.bool).take l.length=m.map ae.bool:=List.take_of_length_le (by simp[hm])
   simp only[td,hm,htk,Nat.sub_zero,EW,simprocAttr];exact⟨_,⟨m,false,rfl,hm⟩,rfl⟩
 obtain⟨_,⟨m,b,rfl,h1⟩,h3⟩:=key;exact⟨m,b,ai h3,h1⟩
section
variable {s:c8} {a:Int} {Q:ae×aj->Prop}
def uz(c:Nat)(x:ae×List Node):Prop:=(x.1 = .slice .c0 []/\x.2=[]\/x.1=au x.2)/\x.2.length<=c/\∀n,n∈x.2->C0 n
def uz.adV{c:Nat}{x:ae×List Node}(h:uz c x)(hc:c<=100000){n:Node}(hn:C0 n):∃m,(∀M,ar (ag aH) 252 [x.1.cu,.agg (an n)] M=some (au m,M))/\uz (c+1) (au m,m):=by
 obtain⟨v,l⟩:=x;obtain⟨h1,h2,h3⟩:=h;simp only at h1 h2 h3;obtain⟨m,q,g1,g2⟩:=akz l n (by omega)
 have hv:v.cu=au l:=by
  rcases h1 with ⟨rfl,rfl⟩|rfl<;>rfl
 refine⟨m,fun M=>?_,.inr rfl,by simp only; omega,fun y hy=>?_⟩
 ·simp only[hv];exact cO q M
 ·rcases g2 y hy with rfl|hy
  ·exact hn
  ·exact h3 y hy
def uz.mono{c d:Nat}{x:ae×List Node}(h:uz c x)(hd:c<=d):uz d x:=⟨h.1,Nat.le_trans h.2.1 hd,h.2.2⟩
def ajX(s:c8)(a:Int)(hs:Rt s.now)(hl:s.since.length=s.now.nodes.length)(hp:s.bq.length<=90000)(he:∀p,p∈s.bq->C0 p.node):∃l,ag aH 191 [.agg (aE s),.int .i64 a] []=some (au l,[])/\l.length<=90200/\∀n,n∈l->C0 n:=by
 have key:∃r:ae×aj,(∃l,r=(au l,[])/\l.length<=90200/\∀n,n∈l->C0 n)/\bS (ag aH) Bn.results 0 [] Bn.body (bW 0 [.agg (aE s),.int .i64 a]) []=some r:=by
  have h200:=hs.sz.nodes;simp only[Bn,Gi,aE,EW,simprocAttr];refine di (xs:=s.now.nodes) (by omega) (fun m (x:ae×List Node)=>uz m x) (fun x i=>[(1,.int .i64 a),(2,.ptr 0 0),(5,x.1),(6,.int .i64 i)]) (fun _=>[.cells (aE s)]) _ (fun x hI=>?_) (fun pre n post x e hx hlt hw h0 hm hI hi=>?_) (.slice .c0 [],[]) ⟨.inl ⟨rfl,rfl⟩,Nat.le_refl _,fun n h=>by cases h⟩
  ·simp only[aE];simp only[Gi,Int.lt_irrefl,EW,simprocAttr];refine di (xs:=s.bq) (by omega) (fun m (x:ae×List Node)=>uz (s.now.nodes.length+m) x) (fun x i=>[(1,.int .i64 a),(2,.ptr 0 0),(5,x.1),(7,.int .i64 i)]) (fun _=>[.cells (aE s)]) _ (fun x hI=>?_) (fun pre p post x e hx hlt hw h0 hm hI hi=>?_) x hI
   ·obtain⟨v,l⟩:=x;obtain⟨h1,h2,h3⟩:=hI;simp only at h2 h3;rcases h1 with ⟨h1,h4⟩|h1<;>simp only at h1
    ·simp only at h4;subst h1; subst h4;simp only[aE];simp only[Gi,Int.lt_irrefl,EW,simprocAttr];exact⟨_,⟨[],rfl,by simp,h3⟩,rfl⟩
    ·subst h1;simp only[aE];simp only[Gi,Int.lt_irrefl,EW,simprocAttr];exact⟨_,⟨l,rfl,by omega,h3⟩,rfl⟩
   ·have hpl:=(List.getElem?_eq_some_iff.1 hx).1;obtain⟨m,q,g⟩:=hI.adV (by omega) (he p hm)
    have i1:=hi x (hI.mono (by omega))
    have i2:=hi _ g;obtain⟨v,l⟩:=x;rcases hI.1 with ⟨h3,h4⟩|h3<;>simp only at h3<;>first|(simp only at h4; subst h3; subst h4)|subst h3
    all_goals
     first
      |(change ∀M,ar (ag aH) 252 [.slice .sh [],.agg (an p.node)] M=_ at q)
      |(change ∀M,ar (ag aH) 252 [au l,.agg (an p.node)] M=_ at q)
     simp only[aE,an] at i1 i2 q ⊢;cases h1:decide (p.dZ<=a)<;>cases h2:decide (a<p.xH)<;>simp only[Gi,hlt,hx,hw,h0,h1,h2,q,eR,fT,an,EW,simprocAttr]<;>first|exact i1|exact i2
  ·have hpl:=(List.getElem?_eq_some_iff.1 hx).1;have hl1:((pre.length:Int)<(s.since.length:Int))=True:=nj;obtain⟨y,hy⟩:∃y,s.since[pre.length]?=some y:=⟨_,List.getElem?_eq_getElem (by omega)⟩
   obtain⟨m,q,g⟩:=hI.adV (by omega) (hs.Qx hm)
   have i1:=hi x (hI.mono (by omega))
   have i2:=hi _ g;obtain⟨v,l⟩:=x;rcases hI.1 with ⟨h3,h4⟩|h3<;>simp only at h3<;>first|(simp only at h4; subst h3; subst h4)|subst h3
   all_goals
    first
     |(change ∀M,ar (ag aH) 252 [.slice .sh [],.agg (an n)] M=_ at q)
     |(change ∀M,ar (ag aH) 252 [au l,.agg (an n)] M=_ at q)
    simp only[aE,an] at i1 i2 q ⊢;cases h1:decide (y<=a)<;>simp only[Gi,hlt,hx,hw,h0,hl1,hy,h1,q,aF,an,fF,EW,simprocAttr]<;>first|exact i1|exact i2
 obtain⟨_,⟨l,rfl,h1⟩,h3⟩:=key;exact⟨l,ai h3,h1⟩
def c119(s:c8)(id:Int)(hs:Rt s.now)(hl:s.since.length=s.now.nodes.length)(hp:s.bq.length<=90000)(he:∀p,p∈s.bq->C0 p.node)(hk:s.taken.length<=16):∃i l e,ag aH 119 [.agg (aE s),.int .i64 id] []=some (.tuple [.int .i64 i,au l,.int .i64 e],[])/\l.length<=90200/\∀n,n∈l->C0 n:=by
 have key:∃r:ae×aj,(∃i l e,r=(.tuple [.int .i64 i,au l,.int .i64 e],[])/\l.length<=90200/\∀n,n∈l->C0 n)/\bS (ag aH) Bc.results 0 [] Bc.body (bW 0 [.agg (aE s),.int .i64 id]) []=some r:=by
  simp only[Bc,Im,aE,EW,simprocAttr];refine di (xs:=s.taken) (by omega) (fun _ (_:Unit)=>True) (fun _ i=>[(1,.int .i64 id),(2,.ptr 0 0),(7,.int .i64 i)]) (fun _=>[.cells (aE s)]) _ (fun _ _=>?_) (fun pre x post _ e hx hlt hw h0 hm _ hi=>?_) () trivial
  ·simp only[aE];simp only[Im,Int.lt_irrefl,EW,simprocAttr];exact⟨_,⟨0,[],100,rfl,by simp,fun n h=>by cases h⟩,rfl⟩
  ·have hpl:=(List.getElem?_eq_some_iff.1 hx).1;obtain⟨l,q1,g1,g2⟩:=ajX s x.at' hs hl hp he;obtain⟨m,b,q2,g3⟩:=ajY l x.ino (by omega) (fun n hn=>(g2 n hn).1)
   have k1:=cP q1;have k2:=cP q2;have i1:=hi () trivial;have e1:((pre.length:Int)<(s.taken.length:Int))=True:=nj;simp only[aE] at i1 k1 ⊢;cases h1:x.id != id<;>simp only[Im,hlt,hx,hw,h0,h1,k1,k2,eA,cS,EW,simprocAttr]
   ·refine di (xs:=l) (by omega) (fun c (S:List Node)=>S.length<=c/\∀n,n∈S->n∈l) (fun S i=>[(2,.ptr 0 0),(7,.int .i64 pre.length),(8,au l),(9,.slice .sh (m.map ae.bool)),(11,.slice (.own 1) (S.map aF)),(12,.int .i64 i)]) (fun S=>[.cells (aE s),.tick 6 S.length]) _ (fun S hS=>?_) (fun pre2 n post2 S e2 hx2 hlt2 hw2 h02 hm2 hS hi2=>?_) [] ⟨Nat.le_refl _,fun n h=>by cases h⟩
    ·simp only[aE];simp only[Im,Int.lt_irrefl,e1,hx,h0,eA,cS,EW,simprocAttr];exact⟨_,⟨_,S,0,rfl,by omega,fun n hn=>g2 n (hS.2 n hn)⟩,rfl⟩
    ·have hpl2:=(List.getElem?_eq_some_iff.1 hx2).1;obtain⟨c,hc⟩:∃c,m[pre2.length]?=some c:=⟨_,List.getElem?_eq_getElem (by omega)⟩
     have j1:=hi2 S ⟨by omega,hS.2⟩
     have j2:=hi2 (S++[n]) ⟨by simp; omega,fun y hy=>by
      rcases List.mem_append.1 hy with hy|hy
      ·exact hS.2 y hy
      ·rw[List.mem_singleton.1 hy]; exact hm2⟩
     have r1:aP (S.length+1) 80=True:=jx;simp only[aE,List.map_append,List.map_cons,List.map_nil,List.length_append,List.length_cons,List.length_nil,Nat.zero_add,aF,an] at j1 j2 ⊢;cases c<;>simp only[Im,hlt2,hx2,hw2,h02,hc,r1,aF,an,EW,simprocAttr]<;>first|exact j1|exact j2
   ·exact i1
 obtain⟨_,⟨i,l,e,rfl,h1⟩,h3⟩:=key;exact⟨i,l,e,ai h3,h1⟩
end
end
section
attribute [local irreducible] bS cz fu gK bG kr ag ar aQ aG
section
variable {f:aa} {o:dG} {l:List Node} {names:List Bytes} {Q:ae×aj->Prop}
abbrev TM(n:Node):List ae:=[.int .i64 n.ino,.int .i64 n.kind,.int .i64 n.bE,bc n.data,cT n.av,.int .i64 n.up]
abbrev Cg(f:aa)(o:dG)(l:List Node)(n:Node):aj:=[.cells (aR f),.cells (bB o),.cells iZ,.cells [au l,.int .i64 0,.int .i64 0],.cells (TM n)]
def Ti{n:Node}(hn:n.av.length<=64){i:Nat}{w:Bytes}(hw':names[i]?=some w){k:List K}
  (hx:∀(x:Int) z,∃r,Q r/\kr (ag aH) [.bl 4 7] 0 k ⟨.exit 2,(4,.ptr 2 0)::(8,bg names)::(9,.ptr 3 0)::(10,.ptr 4 0)::(12,.int .i64 i)::(13,.int .i64 x)::z,Cg f o l n⟩=some r) :
  ∃r,Q r/\bS (ag aH) [.bl 4 7] 0 k (.loop [4,8,9,10,12,13,14] YC) [(4,.ptr 2 0),(8,bg names),(9,.ptr 3 0),(10,.ptr 4 0),(12,.int .i64 i),(13,.int .i64 0),(14,.int .i64 0)] (Cg f o l n)=some r:=by
 have b1:((i:Int)<0)=False:=by simp
 refine di (xs:=n.av) (by omega) (fun _ _=>True) (fun(x:Int) j=>[(4,.ptr 2 0),(8,bg names),(9,.ptr 3 0),(10,.ptr 4 0),(12,.int .i64 i),(13,.int .i64 x),(14,.int .i64 j)]) (fun _=>Cg f o l n) Q (fun x _=>?_) (fun pre e post x h hx' hlt hw h0 hm _ hi=>?_) 0 trivial
 ·simp only[Cg,TM,aR,bB,iZ] at hx ⊢;simp only[CY,Int.lt_irrefl,EW,simprocAttr];exact hx x _
 ·have i1:=hi x trivial;have i2:=hi e.ino trivial;simp only[Cg,TM,aR,bB,iZ] at i1 i2 ⊢;cases h1:e.name==w<;>simp only[CY,hlt,hx',hw,h0,hw',b1,h1,cn,bU,EW,simprocAttr]<;>first|exact i1|exact i2
def Tj(hl:l.length<=100000)(he:∀n,n∈l->C0 n)(hn:names.length<=12){k:List K}
  (hx:∀(n:Node) z,C0 n->∃r,Q r/\kr (ag aH) [.bl 4 7] 0 k ⟨.exit 0,(4,.ptr 2 0)::(8,bg names)::(9,.ptr 3 0)::(10,.ptr 4 0)::z,Cg f o l n⟩=some r)
  (hr:∀(a:Int) M,∃r,Q r/\kr (ag aH) [.bl 4 7] 0 k ⟨.ret,[(4,.ptr 2 0)],.cells (aR f) :: .cells (bB o) :: .cells (bj (cI a))::M⟩=some r) {n:Node} (hno:C0 n) :
  ∃r,Q r/\bS (ag aH) [.bl 4 7] 0 k (.loop [4,8,9,10,12] YD) [(4,.ptr 2 0),(8,bg names),(9,.ptr 3 0),(10,.ptr 4 0),(12,.int .i64 0)] (Cg f o l n)=some r:=by
 have q4:=Xq;simp only[bj,cI] at q4 hr;refine di (xs:=names) (by omega) (fun _ (n:Node)=>C0 n) (fun _ i=>[(4,.ptr 2 0),(8,bg names),(9,.ptr 3 0),(10,.ptr 4 0),(12,.int .i64 i)]) (fun n=>Cg f o l n) Q (fun n hno=>?_) (fun pre w post n h hx' hlt hw h0 hm hno hi=>?_) n hno
 ·simp only[Cg,TM,aR,bB,iZ] at hx ⊢;simp only[CY,Int.lt_irrefl,EW,simprocAttr];exact hx n _ hno
 ·have la:=fun {k} hx=>Ti (f:=f) (o:=o) (l:=l) (Q:=Q) hno.1 hx' (k:=k) hx
  simp only[Cg,TM,aR,bB,iZ] at la hi hr ⊢;cases h1:n.kind != 2
  ·simp only[CY,hlt,h1,EW,simprocAttr];refine la (fun x z=>?_)
   have qg:=fun M=>tP l 0 0 x hl M
   cases hf:find l x with
   |none =>
    rw[hf] at qg;simp only[Option.getD_none,Option.isSome_none,aF,an,Node.zero,List.map_nil] at qg;simp only[CY,qg,q4,EW,simprocAttr];exact hr 70 _
   |some m =>
    rw[hf] at qg;simp only[Option.getD_some,Option.isSome_some,aF,an] at qg;have i1:=hi m (he m (List.mem_of_find?_eq_some hf));simp only[CY,qg,hw,EW,simprocAttr];exact i1
  ·simp only[CY,hlt,h1,q4,EW,simprocAttr];exact hr 73 _
def Tl{n:Node}(hn:n.av.length<=64){k:List K}
  (hx:∀(S:List Bytes) z,∃r,Q r/\kr (ag aH) [.bl 4 7] 0 k ⟨.exit 4,(4,.ptr 2 0)::(10,.ptr 4 0)::(17,.slice (.own 5) (S.map ae.str))::z,Cg f o l n++[.tick 1 S.length]⟩=some r) :
  ∃r,Q r/\bS (ag aH) [.bl 4 7] 0 k (.loop [4,10,17,18] YE) [(4,.ptr 2 0),(10,.ptr 4 0),(17,.slice (.own 5) []),(18,.int .i64 0)] (Cg f o l n++[.tick 1 0])=some r:=by
 refine di (xs:=n.av) (by omega) (fun m (S:List Bytes)=>S.length<=m) (fun S i=>[(4,.ptr 2 0),(10,.ptr 4 0),(17,.slice (.own 5) (S.map ae.str)),(18,.int .i64 i)]) (fun S=>Cg f o l n++[.tick 1 S.length]) Q (fun S hS=>?_) (fun pre e post S h hx' hlt hw h0 hm hS hi=>?_) [] (Nat.le_refl _)
 ·simp only[Cg,TM,aR,bB,iZ,List.cons_append,List.nil_append] at hx ⊢;simp only[CY,Int.lt_irrefl,EW,simprocAttr];exact hx S _
 ·have hp:=(List.getElem?_eq_some_iff.1 hx').1;have i1:=hi (S++[e.name]) (by simp; omega)
  have r1:aP (S.length+1) 16=True:=jx;simp only[Cg,TM,aR,bB,iZ,List.cons_append,List.nil_append,List.map_append,List.map_cons,List.map_nil,List.length_append,List.length_cons,List.length_nil,Nat.zero_add] at i1 ⊢;simp only[CY,hlt,hx',hw,h0,r1,cn,bU,EW,simprocAttr];exact i1
end
def c53{K:Nat}(f:aa)(o:dG)(hf:FB K f)(hK:K<=89000)(ho:p6 o):∃a,ag aH 53 [.agg (aR f),.agg (bB o)] []=some (.agg (bj a),[]):=by
 have key:∃r:ae×aj,(∃a,r=(.agg (bj a),[]))/\bS (ag aH) DP.results 0 [] DP.body (bW 0 [.agg (aR f),.agg (bB o)]) []=some r:=by
  obtain⟨i,l,e,qa,h1,h2⟩:=c119 f.s o.n hf.ok.rt hf.ok.len hf.ok.bq hf.ok.ub hf.ok.taken;have q1:=cP qa;have q2:=fun M=>k35 o.path (by have:=ho.path; omega) M
  obtain⟨_,o2⟩:=pO o.path;generalize hU o.path=v at q2 o2;have q4:=Xq;simp only[aE,bj,cI] at q1 q4;cases h3:e != 0
  case true =>
   simp only[DP,CY,aR,bB,q1,q4,h3,EW,simprocAttr];exact⟨_,⟨cI e,rfl⟩,rfl⟩
  cases h4:v.2 != 0
  case true =>
   simp only[DP,CY,aR,bB,q1,q2,q4,h3,h4,EW,simprocAttr];exact⟨_,⟨cI v.2,rfl⟩,rfl⟩
  have qg:=fun M=>tP l 0 0 i (by omega) M
  have hz:C0 ((find l i).getD Node.zero):=by
   cases hf:find l i with
   |none=>exact⟨by simp[Node.zero],by simp[Node.zero]⟩
   |some m=>exact h2 m (List.mem_of_find?_eq_some hf)
  generalize (find l i).getD Node.zero=n at qg hz;have lb:=fun {k Q} hx hr=>Tj (f:=f) (o:=o) (l:=l) (names:=v.1) (Q:=Q) (by omega) h2 o2 (k:=k) hx hr hz
  simp only[Cg,TM,aR,bB,iZ,aF,an] at lb qg;simp only[DP,CY,aR,bB,aF,an,q1,q2,qg,h3,h4,EW,simprocAttr];refine lb (fun n z hn=>?_) (fun a M=>?_)
  ·have lc:=fun {k Q} hx=>Tl (f:=f) (o:=o) (l:=l) (Q:=Q) hn.1 (k:=k) hx
   simp only[Cg,TM,aR,bB,iZ,List.cons_append,List.nil_append] at lc;simp only[CY,EW,simprocAttr];refine lc (fun S z=>?_)
   obtain⟨b,qs⟩:=acC n;have q5:=cP qs;simp only[aF,an] at q5;simp only[CY,q5,EW,simprocAttr];exact⟨_,⟨⟨0,n.ino,n.kind,n.bE,b,S,n.data⟩,rfl⟩,rfl⟩
  ·simp only[CY,bj,EW,simprocAttr];exact⟨_,⟨cI a,rfl⟩,rfl⟩
 obtain⟨_,⟨a,rfl⟩,h3⟩:=key;exact⟨a,ai h3⟩
def c24{K:Nat}(f:aa)(o:dG)(hf:FB K f)(hK:K<=89000)(ho:p6 o):p7 K f 24 [.agg (aR f),.agg (bB o)]:=by
 have q4:=Xq;simp only[bj,cI,bg,bc,List.map_nil] at q4;have back:FB (K+200) f:=hf.mono (by omega)
 have bad:ag aH 24 [.agg (aR f),.agg (bB o)] []=some (.tuple [.agg (aR f),.agg (bj (cI 1))],[])->p7 K f 24 [.agg (aR f),.agg (bB o)]:=fun h=>⟨f,cI 1,h,back,id⟩
 cases c1:decide (o.aV<0)
 case true =>
  refine bad (ai ?_);simp only[lr,xu,aR,bB,bj,cI,bg,bc,c1,q4,EW,simprocAttr]
 cases c2:decide (16<=o.aV)
 case true =>
  refine bad (ai ?_);simp only[lr,xu,aR,bB,bj,cI,bg,bc,c1,c2,q4,EW,simprocAttr]
 obtain⟨g1,a1,r1,f1⟩:=c50 f o hf hK ho;obtain⟨g2,a2,r2,f2⟩:=c51 f o hf hK ho;obtain⟨g3,a3,r3,f3⟩:=c52 f o hf hK ho;have q1:=cP r1;have q2:=cP r2;have q3:=cP r3;simp only[aR,bB,bj] at q1 q2 q3;have byN:ag aH 24 [.agg (aR f),.agg (bB o)] []=some (.tuple [.agg (aR g1),.agg (bj a1)],[])->p7 K f 24 [.agg (aR f),.agg (bB o)]:=fun h=>⟨g1,a1,h,f1⟩
 have byW:ag aH 24 [.agg (aR f),.agg (bB o)] []=some (.tuple [.agg (aR g2),.agg (bj a2)],[])->p7 K f 24 [.agg (aR f),.agg (bB o)]:=fun h=>⟨g2,a2,h,f2⟩
 have byH:ag aH 24 [.agg (aR f),.agg (bB o)] []=some (.tuple [.agg (aR g3),.agg (bj a3)],[])->p7 K f 24 [.agg (aR f),.agg (bB o)]:=fun h=>⟨g3,a3,h,f3⟩
 cases k2:o.kind==2
 case true =>
  refine byN (ai ?_);simp only[lr,xu,aR,bB,bj,cI,bg,bc,c1,c2,k2,q1,EW,simprocAttr]
 cases k3:o.kind==3
 case true =>
  refine byN (ai ?_);simp only[lr,xu,aR,bB,bj,cI,bg,bc,c1,c2,k2,k3,q1,EW,simprocAttr]
 cases k4:o.kind==4
 case true =>
  refine byN (ai ?_);simp only[lr,xu,aR,bB,bj,cI,bg,bc,c1,c2,k2,k3,k4,q1,EW,simprocAttr]
 cases k5:o.kind==5
 case true =>
  refine byN (ai ?_);simp only[lr,xu,aR,bB,bj,cI,bg,bc,c1,c2,k2,k3,k4,k5,q1,EW,simprocAttr]
 cases k1:o.kind==1
 case true =>
  refine byW (ai ?_);simp only[lr,xu,aR,bB,bj,cI,bg,bc,c1,c2,k2,k3,k4,k5,k1,q2,EW,simprocAttr]
 cases k6:o.kind==6
 case true =>
  refine byW (ai ?_);simp only[lr,xu,aR,bB,bj,cI,bg,bc,c1,c2,k2,k3,k4,k5,k1,k6,q2,EW,simprocAttr]
 cases k7:o.kind==7
 case true =>
  refine byW (ai ?_);simp only[lr,xu,aR,bB,bj,cI,bg,bc,c1,c2,k2,k3,k4,k5,k1,k6,k7,q2,EW,simprocAttr]
 cases k8:o.kind==8
 case true =>
  refine byW (ai ?_);simp only[lr,xu,aR,bB,bj,cI,bg,bc,c1,c2,k2,k3,k4,k5,k1,k6,k7,k8,q2,EW,simprocAttr]
 cases k13:o.kind==13
 case true =>
  refine byW (ai ?_);simp only[lr,xu,aR,bB,bj,cI,bg,bc,c1,c2,k2,k3,k4,k5,k1,k6,k7,k8,k13,q2,EW,simprocAttr]
 cases tc:o.kind==14
 case true =>
  refine byW (ai ?_);simp only[lr,xu,aR,bB,bj,cI,bg,bc,c1,c2,k2,k3,k4,k5,k1,k6,k7,k8,k13,tc,q2,EW,simprocAttr]
 cases k9:o.kind==9
 case true =>
  refine byH (ai ?_);simp only[lr,xu,aR,bB,bj,cI,bg,bc,c1,c2,k2,k3,k4,k5,k1,k6,k7,k8,k13,tc,k9,q3,EW,simprocAttr]
 cases k10:o.kind==10
 case true =>
  refine byH (ai ?_);simp only[lr,xu,aR,bB,bj,cI,bg,bc,c1,c2,k2,k3,k4,k5,k1,k6,k7,k8,k13,tc,k9,k10,q3,EW,simprocAttr]
 cases Qu:o.kind==11
 case true =>
  refine byH (ai ?_);simp only[lr,xu,aR,bB,bj,cI,bg,bc,c1,c2,k2,k3,k4,k5,k1,k6,k7,k8,k13,tc,k9,k10,Qu,q3,EW,simprocAttr]
 cases Qv:o.kind==12
 case true =>
  refine byH (ai ?_);simp only[lr,xu,aR,bB,bj,cI,bg,bc,c1,c2,k2,k3,k4,k5,k1,k6,k7,k8,k13,tc,k9,k10,Qu,Qv,q3,EW,simprocAttr]
 cases k15:o.kind==15
 case true =>
  obtain⟨a,r5⟩:=c53 f o hf hK ho;have q5:=cP r5;simp only[aR,bB,bj] at q5;refine⟨f,a,ai ?_,back,id⟩;simp only[lr,xu,aR,bB,bj,cI,bg,bc,c1,c2,k2,k3,k4,k5,k1,k6,k7,k8,k13,tc,k9,k10,Qu,Qv,k15,q5,EW,simprocAttr]
 cases k16:o.kind==16
 case true =>
  obtain⟨u,e,r5,e1,e2,e3,e4,e5⟩:=c54 f.s o.n hf.ok.taken hf.ok.bq;have q5:=cP r5;simp only[aE] at q5;cases h1:e != 0
  ·refine⟨⟨u,f.holds,f.bt⟩,cI 0,ai ?_,⟨⟨by simp only[e1]; exact hf.ok.rt,by simp only[e1,e2]; exact hf.ok.len,Nat.le_trans e4 hf.ok.bq,fun p hp=>hf.ok.ub p (e5 p hp),e3,hf.ok.holds,hf.ok.hlen,hf.ok.bt,hf.ok.jN⟩,by have:=hf.past; simp only; omega⟩,fun h y hy=>by simp only[e1]; exact h y hy⟩
   simp only[lr,xu,aR,bB,bj,cI,bg,bc,c1,c2,k2,k3,k4,k5,k1,k6,k7,k8,k13,tc,k9,k10,Qu,Qv,k15,k16,q5,h1,EW,simprocAttr]
  ·refine⟨f,cI e,ai ?_,back,id⟩;simp only[lr,xu,aR,bB,bj,cI,bg,bc,c1,c2,k2,k3,k4,k5,k1,k6,k7,k8,k13,tc,k9,k10,Qu,Qv,k15,k16,q4,q5,h1,EW,simprocAttr]
 cases k17:o.kind==17
 case true =>
  obtain⟨u,l,r5,g5,g6,g7,g8⟩:=c55 f.s.now f.holds o.aV hf.ok.rt hf.ok.holds hf.ok.hlen;obtain⟨s,r6,hs⟩:=c56 f.s u hf.ok.rt g5 hf.ok.len hf.ok.taken hf.ok.bq;have q5:=cP r5;have q6:=cP r6;simp only[aA,ak,aE] at q5 q6;refine⟨⟨s,l,f.bt⟩,cI 0,ai ?_,hf.Zt hK g5 hs g6 g7 hf.ok.bt hf.ok.jN,hs.hok g8⟩;simp only[lr,xu,aR,bB,bj,cI,bg,bc,c1,c2,k2,k3,k4,k5,k1,k6,k7,k8,k13,tc,k9,k10,Qu,Qv,k15,k16,k17,q5,q6,EW,simprocAttr]
 refine bad (ai ?_);simp only[lr,xu,aR,bB,bj,cI,bg,bc,c1,c2,k2,k3,k4,k5,k1,k6,k7,k8,k13,tc,k9,k10,Qu,Qv,k15,k16,k17,q4,EW,simprocAttr]
def k24{K:Nat}(f:aa)(o:dG)(hf:FB K f)(hK:K<=89000)(ho:p6 o):∃g a,(∀M,ar (ag aH) 24 [.agg (aR f),.agg (bB o)] M=some (.tuple [.agg (aR g),.agg (bj a)],M))/\FB (K+200) g/\(CZ f->CZ g):=by
 obtain⟨g,a,h,hg⟩:=c24 f o hf hK ho;exact⟨g,a,fun M=>cO h M,hg⟩
end
section
attribute [local irreducible] bS cz fu gK bG kr ag ar aQ aG
def Wr(x y:eX):eB [.i,.i,.i] (cS x) (cS y)=some (decide (x=y)):=by
 cases x; cases y;simp only[cS,Rl,Option.some.injEq];rw[Bool.eq_iff_iff];simp
def QU(x:eX):(cS x).all ae.dp=true:=rfl
def Wq(x y:bI):eB [.i,.i,.i] (df x) (df y)=some (decide (x=y)):=by
 cases x; cases y;simp only[df,Rl,Option.some.injEq];rw[Bool.eq_iff_iff];simp
def QT(x:bI):(df x).all ae.dp=true:=rfl
def Rm(x y:ba):eB [.i,.i,.i] (cZ x) (cZ y)=some (decide (x=y)):=by
 cases x; cases y;simp only[cZ,Rl,Option.some.injEq];rw[Bool.eq_iff_iff];simp
def IM(x:ba):(cZ x).all ae.dp=true:=rfl
end
section
attribute [local irreducible] bS cz fu gK bG kr ag ar aQ aG
def c47(t:Tree)(ht:t.nodes.length<=100000):ag aH 47 [aA t] []=some (.agg (aE ⟨t,0,List.replicate t.nodes.length 0,[],[],1⟩),[]):=by
 refine ai ?_;have r1:aP t.nodes.length 8=True:=jx;have hrep:List.replicate t.nodes.length (ae.agg [ae.int .i64 0]).norm=(List.replicate t.nodes.length (0:Int)).map fF:=by rw[List.map_replicate]; rfl
 simp only[WL,E47,aA,ak,r1,hrep,EW,simprocAttr];rfl
def c23:ag aH 23 [] []=some (.agg (aR f0),[]):=by
 have q1:=k48;have q2:∀M,ar (ag aH) 47 [.agg (ak ov)] M=some (.agg (aE f0.s),M):=fun M=>cO (c47 ov (by decide)) M
 simp only[aA,ak,aE] at q1 q2;refine ai ?_;simp only[Wz,E23,q1,q2,EW,simprocAttr];rfl
def c33(s:c8)(hs:Rt s.now)(hp:s.bq.length<=90000)(hl:s.since.length<=100000)(hk:s.taken.length<=16)(he:∀p,p∈s.bq->C0 p.node):ag aH 33 [.agg (aE s),.agg (aE s)] []=some (.bool true,[]):=by
 refine ai ?_;have h200:=hs.sz.nodes;have qs:=fun M=>k95 s.now s.now (by omega) (fun n hn=>by have:=(hs.Qx hn).1; omega) M
 rw[decide_eq_true rfl] at qs;simp only[WD,VG,aE,qs,bne_self_eq_false,EW,simprocAttr];refine mD (xs:=s.since) (by omega) (fun _ (_:Unit)=>()) (fun _ i=>[(2,.ptr 0 0),(3,.ptr 1 0),(5,.int .i64 i)]) (fun _=>[.cells (aE s),.cells (aE s)]) (fun _=>some (ae.bool true,([]:aj))) (fun _=>?_) (fun pre x post _ e hx hlt hw h0 hm hi=>?_) ()
 ·simp only[aE];simp only[VG,Int.lt_irrefl,EW,simprocAttr];refine mD (xs:=s.bq) (by omega) (fun _ (_:Unit)=>()) (fun _ i=>[(2,.ptr 0 0),(3,.ptr 1 0),(6,.int .i64 i)]) (fun _=>[.cells (aE s),.cells (aE s)]) (fun _=>some (ae.bool true,([]:aj))) (fun _=>?_) (fun pre x post _ e hx hlt hw h0 hm hi=>?_) ()
  ·simp only[aE];simp only[VG,Int.lt_irrefl,EW,simprocAttr];refine mD (xs:=s.taken) (by omega) (fun _ (_:Unit)=>()) (fun _ i=>[(2,.ptr 0 0),(3,.ptr 1 0),(9,.int .i64 i)]) (fun _=>[.cells (aE s),.cells (aE s)]) (fun _=>some (ae.bool true,([]:aj))) (fun _=>?_) (fun pre x post _ e hx hlt hw h0 hm hi=>?_) ()
   ·simp only[aE];simp only[VG,Int.lt_irrefl,EW,simprocAttr]
   ·have i1:=hi ();simp only[aE] at i1 ⊢;simp only[VG,hlt,hx,hw,h0,Wr,QU,eA,EW,simprocAttr];exact i1
  ·have i1:=hi ();have qn:=fun M=>k96 x.node x.node (by have:=(he x hm).1; omega) M
   rw[decide_eq_true rfl] at qn;simp only[aE,an] at i1 qn ⊢;simp only[VG,hlt,hx,hw,h0,qn,bne_self_eq_false,eR,fT,an,EW,simprocAttr];exact i1
 ·have i1:=hi ();simp only[aE] at i1 ⊢;simp only[VG,hlt,hx,hw,h0,bne_self_eq_false,fF,EW,simprocAttr];exact i1
def c16(f:aa)(hf:oo f):ag aH 16 [.agg (aR f),.agg (aR f)] []=some (.bool true,[]):=by
 refine ai ?_;have h200:=hf.rt.sz.nodes;have h1:=hf.hlen;have h2:=hf.jN;have qs:=fun M=>cO (c33 f.s hf.rt hf.bq (by have:=hf.len; omega) hf.taken hf.ub) M
 simp only[aE] at qs;simp only[Ww,E16,aR,qs,bne_self_eq_false,EW,simprocAttr];refine mD (xs:=f.holds) (by omega) (fun _ (_:Unit)=>()) (fun _ i=>[(2,.ptr 0 0),(3,.ptr 1 0),(5,.int .i64 i)]) (fun _=>[.cells (aR f),.cells (aR f)]) (fun _=>some (ae.bool true,([]:aj))) (fun _=>?_) (fun pre x post _ e hx hlt hw h0 hm hi=>?_) ()
 ·simp only[aR];simp only[E16,Int.lt_irrefl,EW,simprocAttr];refine mD (xs:=f.bt) (by omega) (fun _ (_:Unit)=>()) (fun _ i=>[(2,.ptr 0 0),(3,.ptr 1 0),(6,.int .i64 i)]) (fun _=>[.cells (aR f),.cells (aR f)]) (fun _=>some (ae.bool true,([]:aj))) (fun _=>?_) (fun pre x post _ e hx hlt hw h0 hm hi=>?_) ()
  ·simp only[aR];simp only[E16,Int.lt_irrefl,EW,simprocAttr]
  ·have i1:=hi ();simp only[aR] at i1 ⊢;simp only[E16,hlt,hx,hw,h0,Rm,IM,bz,EW,simprocAttr];exact i1
 ·have i1:=hi ();simp only[aR] at i1 ⊢;simp only[E16,hlt,hx,hw,h0,Wq,QT,cF,EW,simprocAttr];exact i1
def k16 f hf:=cP (c16 f hf)
def c13(xs:List dG)(hn:xs.length<=50)(ho:∀o,o∈xs->p6 o):∃f,ag aH 13 [AZ xs] []=some (.agg (aR f),[])/\FB 10000 f/\CZ f:=by
 have key:∃r:ae×aj,(∃f,r=(.agg (aR f),[])/\FB 10000 f/\CZ f)/\bS (ag aH) JK.results 0 [] JK.body (bW 0 [AZ xs]) []=some r:=by
  have q1:=cP c23;simp only[aR] at q1;simp only[JK,E13,q1,Af,EW,simprocAttr];refine di (xs:=xs) (by omega) (fun m (f:aa)=>FB (200*m) f/\CZ f) (fun _ i=>[(0,AZ xs),(2,.ptr 0 0),(3,.ptr 1 0),(4,.int .i64 i)]) (fun f=>[.cells kj,.cells (aR f)]) _ (fun f hf=>?_) (fun pre o post f e hx hlt hw h0 hm hf hi=>?_) f0 ⟨fb0,fun y hy=>by cases hy⟩
  ·simp only[aR,kj];simp only[E13,Int.lt_irrefl,Af,EW,simprocAttr];exact⟨_,⟨f,rfl,hf.1.mono (by omega),hf.2⟩,rfl⟩
  ·have hp:=(List.getElem?_eq_some_iff.1 hx).1;obtain⟨g,a,q2,hg,hh⟩:=k24 f o hf.1 (by omega) (ho o hm)
   have i1:=hi g ⟨by rw[Nat.mul_add]; exact hg,hh hf.2⟩
   simp only[aR,bB,bj,kj] at q2 i1 ⊢;simp only[E13,hlt,hx,hw,h0,q2,bB,Af,EW,simprocAttr];exact i1
 obtain⟨_,⟨f,rfl,h1⟩,h3⟩:=key;exact⟨f,ai h3,h1⟩
end
end Go.Proofs.YtahkjijkflobhaaGreatDoor
namespace Go.Abs
open Go
def ow{α:Type}(p:Prop)[Decidable p](x:Option α):Option α:=if p then x else none
def U2{α:Type}(p:Prop)[Decidable p](x:Option α):ow p x=aQ p x:=by
 unfold ow;split
 ·rename_i h; exact(bo h).symm
 ·rename_i h; rw[eq_false h]; exact(uQ x).symm
def Ev(xs:List ae)(sz:Nat):Bool:=xs.all fun x=>x.cells.length==sz
def T7(xs:List ae)(sz:Nat):(Ev xs sz=true)=wid xs sz:=by
 simp[Ev,wid]
instance (n b:Nat):Decidable (aP n b):=inferInstanceAs (Decidable (n*b<=2 ^ 44))
def kb(f:ae->ae->Bool):List ae->List ae->Bool
 | [],[]=>true
 |a::r,b::s=>f a b&&kb f r s
 |_,_=>false
def xc{f:ae->ae->Bool}(hf:∀a b,f a b=true->a=b):∀ {a b:List ae},kb f a b=true->a=b
 | [],[],_=>rfl
 |a::r,b::s,h=>by
  simp only[kb,Bool.and_eq_true] at h;rw[hf a b h.1,xc hf h.2]
 | [],_::_,h=>by cases h
 |_::_,[],h=>by cases h
def kl:Nat->ae->ae->Bool
 |n+1,x,y=>match x,y with
  | .bool a,.bool b=>a==b
  | .int k a,.int l b=>decide (k=l)&&decide (a=b)
  | .str a,.str b=>decide (a=b)
  | .slice t a,.slice u b=>decide (t=u)&&kb (kl n) a b
  | .agg a,.agg b=>kb (kl n) a b
  | .tuple a,.tuple b=>kb (kl n) a b
  | .ptr a b,.ptr c d=>decide (a=c)&&decide (b=d)
  | .dq a,.dq b=>kb (kl n) a b
  | .func f a,.func g b=>decide (f=g)&&kb (kl n) a b
  | .cU a,.cU b=>decide (a=b)
  | .dD a,.dD b=>decide (a=b)
  | .dI a b,.dI c d=>kb (kl n) a c&&kb (kl n) b d
  | .aW a b c d e,.aW a' b' c' d' e'=>decide (a=a')&&decide (b=b')&&decide (c=c')&&decide (d=d')&&decide (e=e')
  | .dk a b c d,.dk a' b' c' d'=>decide (a=a')&&decide (b=b')&&decide (c=c')&&decide (d=d')
  | .iM f a,.iM g b=>decide (f=g)&&kb (kl n) a b
  | .dU a b e,.dU c d f=>decide (a=c)&&decide (b=d)&&decide (e=f)
  | .any,.any=>true
  |_,_=>false
 |0,_,_=>false
def Cw:∀(n:Nat)(a b:ae),kl n a b=true->a=b
 |0,_,_,h=>by cases h
 |n+1,x,y,h=>by
  have hl:∀ {a b:List ae},kb (kl n) a b=true->a=b:=fun h=>xc (Cw n) h
  simp only[kl] at h
  split at h<;>(try simp only[Bool.and_eq_true,decide_eq_true_eq,beq_iff_eq] at h)<;>first
   |(cases h; done)
   |(rw[h])
   |(rw[hl h])
   |(rw[h.1,hl h.2])
   |(rw[h.1,h.2])
   |(rw[hl h.1,hl h.2])
   |(obtain⟨⟨⟨⟨h1,h2⟩,h3⟩,h4⟩,h5⟩:=h; rw[h1,h2,h3,h4,h5])
   |(obtain⟨⟨⟨h1,h2⟩,h3⟩,h4⟩:=h; rw[h1,h2,h3,h4])
   |(obtain⟨⟨h1,h2⟩,h3⟩:=h; rw[h1,h2,h3])
   |(obtain⟨⟨h1,h2⟩,h3,h4⟩:=h; rw[h1,h2,h3,h4])
   |rfl
noncomputable def ZP(call:bL)(env:Env)(M:aj):eu->Option (ae×aj)
 | .pc x lo hi =>
  match x.ev env with
  | .str s=>aG (bX env s.length hi) fun h=>aG (bX env 0 lo) fun l =>
   ow (0<=h/\h<=s.length/\0<=l/\l<=h) (some (.str ((s.take h.toNat).drop l.toNat),M))
  |_=>none
 | .rz sz x lo hi mx =>
  match x.ev env with
  | .slice _ xs=>ow (Ev xs sz=true) <| aG (bX env xs.length hi) fun h=>aG (bX env 0 lo) fun l =>
   match mx with
   |none=>ow (0<=h/\h<=xs.length/\0<=l/\l<=h) (some (.slice .sh ((xs.take h.toNat).drop l.toNat),M))
   |some m=>match m.ev env with
    | .int _ m=>ow (0<=m/\m<=xs.length/\0<=h/\h<=m/\0<=l/\l<=h)
      (rn (m==0) (some (.slice .c0 [],M)) (some (.slice .sh ((xs.take h.toNat).drop l.toNat),M)))
    |_=>none
  | .aW id v sz' al ah=>ow (sz'=sz) <| aG (bX env (ah-al) hi) fun h=>aG (bX env 0 lo) fun l =>
   match mx with
   |none=>ow (0<=h/\h<=(ah-al:Nat)/\0<=l/\l<=h) (rn (l==h) (some (.slice .sh [],M)) (some (.aW id v sz (al+l.toNat) (al+h.toNat),M)))
   |some m=>match m.ev env with
    | .int _ m=>ow (0<=m/\m<=(ah-al:Nat)/\0<=h/\h<=m/\0<=l/\l<=h)
      (rn (m==0) (some (.slice .c0 [],M)) (rn (l==h) (some (.slice .sh [],M)) (some (.aW id v sz (al+l.toNat) (al+h.toNat),M))))
    |_=>none
  |_=>none
 | .mY sz x i =>
  match x.ev env,i.ev env with
  | .slice _ xs,.int _ n=>ow (0<=n) (aG (xs[n.toNat]?) fun e=>if e.cells.length=sz then some (.dq e.cells,M) else none)
  | .aW id v sz' lo hi,.int _ n=>ow (0<=n/\n<(hi-lo:Nat)/\sz'=sz) (some (.dk id v (lo+n.toNat) 0,M))
  |_,_=>none
 | .oT x i =>
  match x.ev env,i.ev env with
  | .str s,.int _ n=>ow (0<=n) (aG (s[n.toNat]?) fun b=>some (.int .u8 b.toNat,M))
  |_,_=>none
 | .append sz bytes x y =>
  match x.ev env,y.ev env with
  | .slice tk xs,.slice _ ys =>
   ow (aP (xs.length+ys.length) bytes/\Ev xs sz=true/\Ev ys sz=true) (
    match tk with
    | .c0=>match xs with|[]=>some (.slice (.own M.length) ys,M++[.tick sz ys.length])|_=>none
    | .own k=>match nth M k with
     |some (.tick sz' n)=>ow (sz'=sz/\n=xs.length) (some (.slice (.own k) (xs++ys),dA M k (.tick sz (xs.length+ys.length))))
     |_=>none
    | .sh=>none)
  | .aW id ver sz' lo hi,.slice _ ys=>match nth M id with
   |some (.arr sz0 v xs)=>ow (v=ver/\sz'=sz/\lo=0/\hi=xs.length/\aP (xs.length+ys.length) bytes/\Ev xs sz=true/\Ev ys sz=true/\0<ys.length)
     (some (.aW id (ver+1) sz 0 (xs.length+ys.length),dA M id (.arr sz0 (ver+1) (xs++ys))))
   |_=>none
  |_,_=>none
 | .oS n sz x i =>
  match x.ev env,i.ev env with
  | .dq cs,.int _ m=>ow (0<=m/\m<n/\n*sz<=cs.length) (some (.dq (cs.drop (m.toNat*sz)),M))
  | .ptr id off,.int _ m=>ow (0<=m/\m<n) (some (.ptr id (off+m.toNat*sz),M))
  |_,_=>none
 |o=>bC call env M o
def z7{call:bL}{env:Env}{M:aj}{o:eu}{x:ae×aj}(h:ZP call env M o=some x):bC call env M o=some x:=by
 have:ZP call env M o=bC call env M o:=by
  cases o<;>first|rfl|(simp only[ZP,bC,U2,T7]; rfl)
 rw[<-this]; exact h
def Lo(env:Env):eu->Bool
 | .mv _ | .own .. | .pick .. | .iB _ | .box _ | .build .. | .lits .. | .wK .. | .eT .. | .cY _ | .Rb _ | .bin .. | .Rk .. | .Wp .. | .not _ | .neg _ | .conv .. | .same _ | .fn .. | .du .. | .tC .. | .tz ..
 | .vR .. | .oS .. | .look .. | .oT .. | .extract .. | .Hn _ | .wJ _ | .rm .. | .b2s _ | .mY .. | .pc .. => true
 |_=>false
def zA{call:bL}{env:Env}{M:aj}{o:eu}{x:ae×aj}(h:Lo env o=true)(hx:bC call env M o=some x):M <+: x.2:=by
 have hm:∀ {v:ae} {x:ae×aj},some (v,M)=some x->M <+: x.2:=fun h=>by cases h; exact List.prefix_refl _
 have ha:∀ {v:ae} {l:aj} {x:ae×aj},some (v,M++l)=some x->M <+: x.2:=fun h=>by cases h; exact List.prefix_append _ _
 have ho:∀ {p:Prop} {y:Option (ae×aj)} {x:ae×aj},aQ p y=some x->y=some x:=fun {p} {y} {x} h=>by
  by_cases hp:p
  ·rwa[bo hp] at h
  ·rw[eq_false hp,uQ] at h; cases h
 cases o<;>first|(cases h; done)|skip
 all_goals (simp only[bC] at hx)
 all_goals (repeat' (first|exact hm hx|exact ha hx|(replace hx:=ho hx)|(have hx':=az hx; clear hx; obtain⟨_,_,hx⟩:=hx')|(have hx':=dW hx; clear hx; rcases hx' with ⟨_,hx⟩|⟨_,hx⟩)|(split at hx)|(cases hx; done)))
def P5(env:Env)(o:eu)(sep:List Nat):Bool:=match o with
 | .store _ a _=>match a.ev env with
  | .ptr id _ => !sep.isEmpty&&sep.all fun z=>match dg env z with | .ptr i _=>i != id|_=>false
  |_=>false
 |_=>false
def Cb{M:aj}{i j:Nat}{b:aM}(h:j≠i):nth (dA M i b) j=nth M j:=by
 induction M generalizing i j with
 |nil=>rfl
 |cons a r ih =>
  cases i with
  |zero=>cases j with
   |zero=>exact absurd rfl h
   |succ j=>rfl
  |succ i=>cases j with
   |zero=>rfl
   |succ j=>simp only[dA,nth]; exact ih (fun e=>h (by rw[e]))
def Cz{call:bL}{env:Env}{M:aj}{o:eu}{sep:List Nat}{x:ae×aj}(h:P5 env o sep=true)(hx:bC call env M o=some x):sep≠[]/\pb env M x.2 sep:=by
 unfold P5 at h;split at h
 ·rename_i n a y;split at h
  ·rename_i id off ha;simp only[Bool.and_eq_true,List.all_eq_true] at h;refine⟨fun e=>by rw[e] at h; simp at h,?_⟩
   simp only[bC,ha] at hx;split at hx
   ·rename_i cs hcs;obtain⟨new,_,hx⟩:=az hx;split at hx
    ·cases hx;have h2:=h.2;clear h;induction sep with
     |nil=>trivial
     |cons z r ih =>
      refine⟨?_,ih fun w hw=>h2 w (List.mem_cons_of_mem _ hw)⟩
      have hz:=h2 z List.mem_cons_self;split
      ·rename_i i o hi;rw[hi] at hz;exact Cb (by simpa using hz)
      ·rename_i hi;split at hz
       ·rename_i i o hi'; exact absurd hi' (hi i o)
       ·cases hz
    ·cases hx
   ·cases hx
  ·cases h
 ·cases h
def P3:aM->aM->Bool
 | .cells a,.cells b=>kb (kl 9) a b
 | .tick a b,.tick c d=>decide (a=c)&&decide (b=d)
 | .map a b,.map c d=>kb (kl 9) a c&&kb (kl 9) b d
 | .fI a b,.fI c d=>decide (a=c)&&decide (b=d)
 | .arr a b c,.arr d e f=>decide (a=d)&&decide (b=e)&&kb (kl 9) c f
 |_,_=>false
def P4{a b:aM}(h:P3 a b=true):a=b:=by
 have hl:∀ {a b:List ae},kb (kl 9) a b=true->a=b:=fun h=>xc (Cw 9) h
 unfold P3 at h
 split at h<;>(try simp only[Bool.and_eq_true,decide_eq_true_eq] at h)<;>first
  |(cases h; done)
  |(rw[hl h])
  |(rw[h.1,h.2])
  |(rw[hl h.1,hl h.2])
  |(obtain⟨⟨h1,h2⟩,h3⟩:=h; rw[h1,h2,hl h3])
def FQ:aj->aj->Bool
 | [],_=>true
 |a::r,b::s=>P3 a b&&FQ r s
 |_::_,[]=>false
def Ch:∀ {a b:aj},FQ a b=true->a <+: b
 | [],_,_=>List.nil_prefix
 |a::r,b::s,h=>by
  simp only[FQ,Bool.and_eq_true] at h;rw[P4 h.1];exact(List.prefix_cons_inj _).2 (Ch h.2)
 |_::_,[],h=>by cases h
noncomputable def F1(call:bL)(o:aX)(env:Env)(M:aj):Option (ae×aj) :=
 match o.oh with
 |true=>ow (o.op.bA env=[]) (ZP call env M o.op)
 |false=>match o.grow with
  |false=>ZP call env M o.op
  |true=>match Lo env o.op||P5 env o.op o.sep with
   |true=>ZP call env M o.op
   |false=>aG (ZP call env M o.op) fun x=>rn (FQ M x.2) (some x) none
def Cu{call:bL}{o:aX}{env:Env}{M:aj}{x:ae×aj}(h:F1 call o env M=some x):ga call o env M=some x:=by
 unfold F1 at h;unfold ga;split at h
 ·rename_i hn;simp only[hn];rw[U2] at h;obtain⟨h1,h2⟩:=bd h;rw[bo h1];exact z7 h2
 ·rename_i hn;simp only[hn];split at h
  ·rename_i hg;simp only[hg];exact z7 h
  ·rename_i hg;simp only[hg];split at h
   ·rename_i hb;replace h:=z7 h;rw[h,aI];refine bo ?_;rcases Bool.or_eq_true .. ▸ hb with hb|hb
    ·exact .inl (zA hb h)
    ·exact .inr (Cz hb h)
   ·obtain⟨y,hy,h⟩:=az h;replace hy:=z7 hy;rcases dW h with ⟨hp,h⟩|⟨_,h⟩
    ·cases h;rw[hy,aI];exact bo (.inl (Ch hp))
    ·cases h
noncomputable def nS(call:bL):List aX->Env->aj->Option Out
 | [],env,M=>some ⟨.normal,env,M⟩
 |o::r,env,M =>
  match o.guard with
  |none=>aG (F1 call o env M) fun x=>uT o.lets x (nS call r (iv env o.dst x.1) x.2)
  |some (t,want)=>match dg env t with
   | .bool b=>rn (b==want) (aG (F1 call o env M) fun x=>uT o.lets x (nS call r (iv env o.dst x.1) x.2))
    (nS call r (iv env o.dst (.tuple [])) M)
   | .tuple []=>nS call r (iv env o.dst (.tuple [])) M
   |_=>none
def Pu{c:Bool}{x:ae×aj}{k k':Option Out}{o:Out}(hk:∀o,k=some o->k'=some o)(h:uT c x k=some o):uT c x k'=some o:=by
 rcases zV h with ⟨h1,h2⟩|⟨v,h0,h1,rfl⟩
 ·rw[zW h1]; exact hk o h2
 ·exact zX h0 h1
def lM{call:bL}:∀ {ops:List aX} {env:Env} {M:aj} {x:Out},nS call ops env M=some x->cm call ops env M=some x
 | [],_,_,_,h=>h
 |o::r,env,M,x,h=>by
  rw[nS] at h;rw[cm];split at h
  ·rename_i hg;simp only[hg];obtain⟨a,ha,h⟩:=az h;rw[Cu ha,aI];exact Pu (fun x=>lM) h
  ·rename_i t want hg;simp only[hg];split at h
   ·rename_i b hb;simp only[hb];rcases dW h with ⟨hw,h⟩|⟨hw,h⟩
    ·obtain⟨a,ha,h⟩:=az h;rw[hw,o5,Cu ha,aI];exact Pu (fun x=>lM) h
    ·rw[hw,iW];exact lM h
   ·rename_i hb;simp only[hb];exact lM h
   ·cases h
noncomputable def nq(call:bL)(fuel:Nat):aO->Env->aj->Option Out
 | .skip,env,M=>some ⟨.normal,env,M⟩
 | .region ops _ live,env,M=>aG (nS call ops env M) fun o=>some (o.jc live)
 | .seq a b,env,M=>aG (nq call fuel a env M) fun o=>mG o (nq call fuel b)
 | .cond c x y,env,M=>match c.ev env with
  | .bool t=>rn t (nq call fuel x env M) (nq call fuel y env M)
  |_=>none
 | .block id c,env,M=>aG (nq call fuel c env M) fun o=>some (oj id o)
 | .loop live c,env,M=>iter (nq call fuel c) live fuel env M
 | .exit id,env,M=>some ⟨.exit id,env,M⟩
 | .ret,env,M=>some ⟨.ret,env,M⟩
def lK{call:bL}{fuel:Nat}:∀(c:aO){env:Env}{M:aj}{x:Out},nq call fuel c env M=some x->bQ call c env M=some x
 | .skip,_,_,_,h=>h
 | .exit _,_,_,_,h=>h
 | .ret,_,_,_,h=>h
 | .region ops d live,env,M,x,h=>by
  simp only[bQ,nq] at *;obtain⟨a,ha,h⟩:=az h;rw[lM ha]; exact h
 | .seq a b,env,M,x,h=>by
  simp only[bQ,nq] at *;obtain⟨o,ho,h⟩:=az h;rw[lK a ho];exact mX (fun env M x=>lK b) h
 | .cond c a b,env,M,x,h=>by
  simp only[bQ,nq] at *;split
  ·rename_i t ht;simp only[ht] at h;rcases dW h with ⟨rfl,h⟩|⟨rfl,h⟩
   ·exact lK a h
   ·exact lK b h
  ·rename_i ht;split at h
   ·rename_i t ht'; exact absurd ht' (ht t)
   ·cases h
 | .block id c,env,M,x,h=>by
  simp only[bQ,nq] at *;obtain⟨o,ho,h⟩:=az h;rw[lK c ho]; exact h
 | .loop live c,env,M,x,h=>by
  simp only[bQ,nq] at *;exact gV (fun n x=>nL live n) (pG (fun env M x=>lK c) live fuel h)
noncomputable def Cj(T:rD)(loops:Nat):Nat->bL
 |0,_,_,_=>none
 |n+1,f,args,M=>match T.fZ f with
  |some g=>g args M
  |none=>match T.code f with
   |none=>none
   |some fn=>if args.length=fn.nparams then aG (nq (Cj T loops n) loops fn.body (bW 0 args) M) (finish fn.results M.length) else none
def Ul(S T:rD):Prop:=S.code=T.code/\(∀f,(S.fZ f).isSome=(T.fZ f).isSome)/\∀f g,S.fZ f=some g->∃g',T.fZ f=some g'/\∀a M x,g a M=some x->g' a M=some x
def Ck{S T:rD}(h:Ul S T)(loops:Nat):∀n,nC (Cj S loops n) (dN T n)
 |0,_,_,_,_,h=>by cases h
 |n+1,f,a,M,x,hx=>by
  rw[Cj] at hx;rw[dN];split at hx
  ·rename_i g hg;obtain⟨g',h1,h2⟩:=h.2.2 f g hg;simp only[h1];exact h2 a M x hx
  ·rename_i hg
   have:T.fZ f=none:=by
    have:=h.2.1 f;rw[hg] at this;cases hT:T.fZ f with
    |none=>rfl
    |some g=>rw[hT] at this; cases this
   simp only[this,<-h.1];split at hx
   ·cases hx
   ·rename_i fn hf;simp only[hf];split at hx
    ·rename_i hl;rw[if_pos hl];obtain⟨o,ho,hx⟩:=az hx;rw[dV (Ck h loops n) _ (lK _ ho),aI];exact hx
    ·cases hx
def Cl{S T:rD}(h:Ul S T){loops n f:Nat}{a:List ae}{M:aj}{x:ae×aj}(hx:Cj S loops n f a M=some x):ag T f a M=some x :=
 gV (fun n x h=>jA T n f a M x h) (Ck h loops n f a M x hx)
end Go.Abs
namespace Go.Abs
open Go
noncomputable def PI(sz p g:Nat):List ae->aj->Option (ae×aj)
 | [.slice _ xs,.func g' cs],M=>match xs,cs with
  | [],[]=>if g'=g then some (.tuple [],M) else none
  |_,_=>none
 | [.aW id ver sz' lo hi,.func g' cs],M=>match nth M id,cs with
  |some (.arr sz0 v xs),[]=>if (decide (v=ver/\sz'=sz/\lo=0/\hi<=xs.length/\g'=g/\hi<=1099511627776)&&((xs.take hi).all (fun x=>(LG p x).isSome)&&decide ((xs.take hi).map (kE p)).Nodup))=true then
    some (.tuple [],dA M id (.arr sz0 v (jo p (xs.take hi)++xs.drop hi))) else none
  |_,_=>none
 |_,_=>none
def PJ(sz p g:Nat)(a:List ae)(M:aj)(x:ae×aj)(h:PI sz p g a M=some x):mi sz p g a M=some x:=by
 unfold PI at h;unfold mi;split at h
 ·exact h
 ·split at h
  ·rename_i e;dsimp only;rw[e];split at h
   ·rename_i hc;simp only[Bool.and_eq_true,decide_eq_true_eq,List.all_eq_true] at hc;obtain⟨⟨h1,h2,h3,h4,h5,h6⟩,h7,h8⟩:=hc;dsimp only;rw[aQ,if_pos ⟨h1,h2,h3,h4,h5,h6,h7,h8⟩];exact h
   ·cases h
  ·cases h
 ·cases h
end Go.Abs
namespace Go.Proofs.YtahkjijkflobhaaGreatDoor
open Go Go.Abs
noncomputable def T0:rD:=⟨code,fun f=>if f=158 then some (PI 6 0 159) else (fZ f).map fun _ _ _=>none⟩
def ug{loops n f:Nat}{a:List ae}{M:aj}{x:ae×aj}(hx:Cj T0 loops n f a M=some x):ag aH f a M=some x:=by
 refine Cl (S:=T0) (T:=aH) ⟨rfl,fun f=>?_,fun f g h=>?_⟩ hx
 ·simp only[T0,aH];split
  ·rename_i h; subst h; rfl
  ·rw[Option.isSome_map]
 ·simp only[T0] at h;split at h
  ·rename_i hf;cases h; subst hf;exact⟨_,rfl,PJ 6 0 159⟩
  ·obtain⟨g',h1,h2⟩:=Option.map_eq_some_iff.1 h;subst h2;exact⟨g',h1,fun _ _ _ h=>by cases h⟩
def qq(k:Int)(p:Bytes)(n h:Int):dG:=⟨k,0,p,[],n,0,h,[]⟩
def hA:=kd f0 (qq 2 [47,100] 2 0)
def hB:=kd hA.1 (qq 2 [47,100,47,102] 1 0)
def hC:=kd hB.1 (qq 8 [47,100,47,102] 0 4)
def hD:=kd hC.1 ⟨11,0,[],[],1,0,4,[7,8]⟩
def hE:=kd hD.1 (qq 14 [47,100] 0 0)
def hG:=kd hE.1 (qq 4 [47,100,47,102] 0 0)
def hH:=kd hG.1 ⟨10,0,[],[],0,9,4,[]⟩
def hI:=kd hG.1 (qq 15 [47,102] 1 0)
def hJ:=kd hG.1 (qq 1 [47,100,47,102] 0 0)
def hK:=kd hG.1 ⟨13,0,[47],[],1,10,0,[]⟩
def hL:=kd hK.1 (qq 2 [47,101] 2 0)
def hM:=kd hL.1 (qq 9 [] 0 4)
def hN:=kd hM.1 (qq 99 [] 0 0)
def facts:hA.2.ino=2/\hB.2.ino=3/\hC.2.err=0/\hD.2.m=3/\hE.2.err=0/\hE.2.n=1/\hG.2.ino=3/\hH.2.data=[0,7,8]/\hI.2.ino=3/\hI.2.data=[0,7,8]/\hJ.2.err=70/\hK.2.err=0/\hL.2.err=90/\hM.2.err=0/\hN.2.err=1/\hM.1.s.now.nodes.length=2:=by
 refine⟨?_,?_,?_,?_,?_,?_,?_,?_,?_,?_,?_,?_,?_,?_,?_,?_⟩<;>kernel_rfl
def TS:ag aH 15 [.agg (aR hM.1)] []=some (.bool true,[]):=ug (loops:=20) (n:=20) (by kernel_rfl)
def TT:ag aH 15 [.agg [.slice .sh [],.int .i64 0,.int .i64 0,.int .i64 0,.slice .sh [],.slice .sh [],.slice .sh [],.int .i64 0,.slice .sh [],.slice .sh []]] []=some (.bool false,[]):=ug (loops:=20) (n:=20) (by kernel_rfl)
def ZW:ag aH 22 [.agg (aR hM.1),.agg (aR f0)] []=some (.bool false,[]):=ug (loops:=20) (n:=20) (by kernel_rfl)
end Go.Proofs.YtahkjijkflobhaaGreatDoor
namespace Go.Proofs.YtahkjijkflobhaaGreatDoor
open Go Go.Abs
section
attribute [local irreducible] bS cz fu gK bG kr ag ar aQ aG
def mJ(k:Int)(p:Bytes)(n h:Int)(hp:p.length<=1000):p6 (qq k p n h):=⟨by simp[qq]; omega,by simp[qq],by simp[qq]⟩
set_option maxRecDepth 100000 in
def Fk:ag kM 10 [] []=some (.bool true,[]):=by
 obtain⟨e1,e2,e3,e4,e5,e6,e7,e8,e9,e10,e11,e12,e13,e14,e15,e16⟩:=facts;have sA:=mC fb0 (by omega) (qq 2 [47,100] 2 0)
 have sB:=mC sA (by omega) (qq 2 [47,100,47,102] 1 0)
 have sC:=mC sB (by omega) (qq 8 [47,100,47,102] 0 4)
 have sD:=mC sC (by omega) ⟨11,0,[],[],1,0,4,[7,8]⟩
 have sE:=mC sD (by omega) (qq 14 [47,100] 0 0)
 have sG:=mC sE (by omega) (qq 4 [47,100,47,102] 0 0)
 have sK:=mC sG (by omega) ⟨13,0,[47],[],1,10,0,[]⟩
 have sL:=mC sK (by omega) (qq 2 [47,101] 2 0)
 have sM:=mC sL (by omega) (qq 9 [] 0 4)
 have o3:∀(k n m h:Int)(p d:Bytes),p.length<=1000->d.length<=1000->p6 ⟨k,0,p,[],n,m,h,d⟩:=fun k n m h p d hp hd=>⟨by simp only; omega,by simp,by simp only; omega⟩
 have qA:=fun M=>tc f0 (qq 2 [47,100] 2 0) fb0.ok (mJ _ _ _ _ (by decide)) M
 have qB:=fun M=>tc hA.1 (qq 2 [47,100,47,102] 1 0) sA.ok (mJ _ _ _ _ (by decide)) M
 have qC:=fun M=>tc hB.1 (qq 8 [47,100,47,102] 0 4) sB.ok (mJ _ _ _ _ (by decide)) M
 have qD:=fun M=>tc hC.1 ⟨11,0,[],[],1,0,4,[7,8]⟩ sC.ok (o3 _ _ _ _ _ _ (by decide) (by decide)) M
 have qE:=fun M=>tc hD.1 (qq 14 [47,100] 0 0) sD.ok (mJ _ _ _ _ (by decide)) M
 have qG:=fun M=>tc hE.1 (qq 4 [47,100,47,102] 0 0) sE.ok (mJ _ _ _ _ (by decide)) M
 have qH:=fun M=>tc hG.1 ⟨10,0,[],[],0,9,4,[]⟩ sG.ok (o3 _ _ _ _ _ _ (by decide) (by decide)) M
 have qI:=fun M=>tc hG.1 (qq 15 [47,102] 1 0) sG.ok (mJ _ _ _ _ (by decide)) M
 have qJ:=fun M=>tc hG.1 (qq 1 [47,100,47,102] 0 0) sG.ok (mJ _ _ _ _ (by decide)) M
 have qK:=fun M=>tc hG.1 ⟨13,0,[47],[],1,10,0,[]⟩ sG.ok (o3 _ _ _ _ _ _ (by decide) (by decide)) M
 have qL:=fun M=>tc hK.1 (qq 2 [47,101] 2 0) sK.ok (mJ _ _ _ _ (by decide)) M
 have qM:=fun M=>tc hL.1 (qq 9 [] 0 4) sL.ok (mJ _ _ _ _ (by decide)) M
 have qN:=fun M=>tc hM.1 (qq 99 [] 0 0) sM.ok (mJ _ _ _ _ (by decide)) M
 have q20:=fun M=>lE (k20 M)
 have qr:=fun M=>lE (cO TS M)
 have qz:=fun M=>lE (cO TT M)
 have qs:=fun M=>lE (cO ZW M)
 change ∀M,ar (ag kM) 14 _ M=some (.tuple [.agg (aR hA.1),.agg (bj hA.2)],M) at qA;change ∀M,ar (ag kM) 14 _ M=some (.tuple [.agg (aR hB.1),.agg (bj hB.2)],M) at qB;change ∀M,ar (ag kM) 14 _ M=some (.tuple [.agg (aR hC.1),.agg (bj hC.2)],M) at qC;change ∀M,ar (ag kM) 14 _ M=some (.tuple [.agg (aR hD.1),.agg (bj hD.2)],M) at qD;change ∀M,ar (ag kM) 14 _ M=some (.tuple [.agg (aR hE.1),.agg (bj hE.2)],M) at qE;change ∀M,ar (ag kM) 14 _ M=some (.tuple [.agg (aR hG.1),.agg (bj hG.2)],M) at qG;change ∀M,ar (ag kM) 14 _ M=some (.tuple [.agg (aR hH.1),.agg (bj hH.2)],M) at qH;change ∀M,ar (ag kM) 14 _ M=some (.tuple [.agg (aR hI.1),.agg (bj hI.2)],M) at qI;change ∀M,ar (ag kM) 14 _ M=some (.tuple [.agg (aR hJ.1),.agg (bj hJ.2)],M) at qJ;change ∀M,ar (ag kM) 14 _ M=some (.tuple [.agg (aR hK.1),.agg (bj hK.2)],M) at qK;change ∀M,ar (ag kM) 14 _ M=some (.tuple [.agg (aR hL.1),.agg (bj hL.2)],M) at qL;change ∀M,ar (ag kM) 14 _ M=some (.tuple [.agg (aR hM.1),.agg (bj hM.2)],M) at qM;change ∀M,ar (ag kM) 14 _ M=some (.tuple [.agg (aR hN.1),.agg (bj hN.2)],M) at qN;generalize hA=A,hB=B,hC=C,hD=D,hE=E,hG=G,hH=H,hI=I,hJ=J,hK=K,hL=L,hM=N,hN=O at *;clear sA sB sC sD sE sG sK sL sM;refine ai ?_;have u0:hZ 0 = .int .u8 0:=rfl;have u7:hZ 7 = .int .u8 7:=rfl;have u8':hZ 8 = .int .u8 8:=rfl;simp only[aR,bj,bB,qq,kj,bc,List.map_cons,List.map_nil,u7,u8'] at qA qB qC qD qE qG qH qI qJ qK qL qM qN q20 qr qz qs ⊢;simp only[Wt,E10,q20,qA,qB,qC,qD,qE,qG,qH,qI,qJ,qK,qL,qM,qN,qr,qz,qs,e1,e2,e3,e4,e5,e6,e7,e8,e9,e10,e11,e12,e13,e14,e15,e16,u0,u7,u8',EW,simprocAttr]
end
def uI{α:Type}{p q:α->Bool}(h:∀y,p y=true->q y=false):∀l:List α,(l.eraseP q).find? p=l.find? p
 | []=>rfl
 |x::r=>by
  rw[List.eraseP_cons];cases hq:q x
  ·simp only[Bool.false_eq_true,if_false,List.find?_cons,cond_false];rw[uI h r]
  ·simp only[cond_true,if_true,List.find?_cons];cases hp:p x
   ·rfl
   ·rw[h x hp] at hq; cases hq
def KO(c h:Int)(f g:aa):Prop:=g.holds.find? (dP c h)=f.holds.find? (dP c h)/\∀y,y∈f.holds->y∈g.holds->j5 f.s.now.nodes y.ino->j5 g.s.now.nodes y.ino
def KO.refl(c h:Int)(f:aa):KO c h f f:=⟨rfl,fun _ _ _ h=>h⟩
def w8(s:c8)(t:Tree):(mj s t).now=t:=by
 unfold mj;split
 ·rename_i h; exact of_decide_eq_true h
 ·rfl
def oO{l:List bI}{y:bI}(hy:y∈l):∀(r:List Int)(t:Tree),Rt t->j5 t.nodes y.ino->j5 (ir l r t).nodes y.ino
 | [],t,_,h=>h
 |i::r,t,ht,h=>by
  rw[ir];split
  ·rename_i hh;refine oO hy r _ (ht.free i) (sd ht i h ?_);rintro rfl;have:r8 l y.ino=true:=List.any_eq_true.2 ⟨y,hy,by simp⟩
   rw[this] at hh; cases hh
  ·exact oO hy r t ht h
def ui(c h:Int){f:aa}{t:Tree}(ht:Rt t)(hk:∀i,j5 f.s.now.nodes i->j5 t.nodes i)(Q:List ba):KO c h f (dv f t Q).1:=by
 unfold dv;split
 ·exact KO.refl _ _ _
 split
 ·exact KO.refl _ _ _
 ·refine⟨rfl,fun y hy _ hf=>?_⟩
  simp only[w8];exact oO hy _ _ ht (hk _ hf)
def Fj(c h:Int){f:aa}(hf:oo f)(o:dG)(i:Int)(d:Bytes):KO c h f (iT f o i d).1:=by
 have hr:=ui c h (hf.rt.put i d) (wH hf.rt i d).2 f.bt;unfold iT;simp only[];split
 ·exact KO.refl _ _ _
 split<;>exact hr
def Ha{c h c' h':Int}(hn:¬(c'=c/\h'=h))(y:bI)(hy:dP c h y=true):dP c' h' y=false:=by
 simp only[dP,Bool.and_eq_true,beq_iff_eq,Bool.and_eq_false_iff,beq_eq_false_iff_ne] at *;omega
def AU{c h c' h':Int}(hn:¬(c'=c/\h'=h)){t:Tree}(ht:Rt t)(l:List bI) :
  (eo t l c' h').2.1.find? (dP c h)=l.find? (dP c h)/\∀y,y∈(eo t l c' h').2.1->y∈l/\(j5 t.nodes y.ino->j5 (eo t l c' h').1.nodes y.ino):=by
 unfold eo;split
 ·exact⟨rfl,fun y hy=>⟨hy,id⟩⟩
 ·rename_i x _;refine⟨uI (fun y hy=>Ha hn y hy) l,fun y hy=>⟨List.mem_of_mem_eraseP hy,fun hf=>?_⟩⟩
  simp only;split
  ·rename_i hc;refine sd ht x.ino hf ?_;intro e;simp only[Bool.and_eq_true,Bool.not_eq_true'] at hc;have:r8 (l.eraseP (dP c' h')) x.ino=true:=List.any_eq_true.2 ⟨y,hy,by simp[e]⟩
   rw[this] at hc; cases hc.2
  ·exact hf
def zy{c h c':Int}(hn:c'≠c):∀(r:List bI)(t:Tree)(l:List bI),Rt t ->
  (iu c' r t l).2.find? (dP c h)=l.find? (dP c h)/\∀y,y∈(iu c' r t l).2->y∈l/\(j5 t.nodes y.ino->j5 (iu c' r t l).1.nodes y.ino)
 | [],t,l,_=>⟨rfl,fun y hy=>⟨hy,id⟩⟩
 |x::r,t,l,ht=>by
  rw[iu];split
  ·obtain⟨h1,h2⟩:=AU (c:=c) (h:=h) (c':=c') (h':=x.handle) (fun e=>hn e.1) ht l
   obtain⟨g1,g2⟩:=zy hn r (eo t l c' x.handle).1 (eo t l c' x.handle).2.1 (ht.close l c' x.handle);exact⟨g1.trans h1,fun y hy=>⟨(h2 y (g2 y hy).1).1,fun hf=>(g2 y hy).2 ((h2 y (g2 y hy).1).2 hf)⟩⟩
  ·exact zy hn r t l ht
def TK{c h c' h':Int}(hn:¬(c'=c/\h'=h))(t:Tree)(l:List bI)(i:Int):(lH t l c' h' i).1.find? (dP c h)=l.find? (dP c h):=by
 have hx:dP c h ⟨c',h',i⟩=false:=by
  simp only[dP,Bool.and_eq_false_iff,beq_eq_false_iff_ne];omega
 unfold lH
 repeat' split
 all_goals first|rfl|skip
 rw[List.find?_append,List.find?_cons,hx,<-List.find?_append,List.take_append_drop]
def Ej(o:dG)(c h:Int):Prop:=o.aV=c/\(o.kind=17\/(o.kind=8\/o.kind=9)/\o.handle=h)
def Ud{c h:Int}{K:Nat}{f:aa}{o:dG}(hf:oo f)(hk:cD gL o.kind=some K)(hn:¬Ej o c h):KO c h f (il K f o).1:=by
 have h0:=KO.refl c h f;have hr:=hf.rt;have hp {t:Tree} (ht:Rt t) (hkf:KF f.s.now.nodes t.nodes):=ui c h (f:=f) ht hkf.2 f.bt;have hm:=sj _ _ _ hk;simp only[gL,List.mem_cons,Prod.mk.injEq,List.not_mem_nil,or_false] at hm;unfold Ej at hn;rcases hm with ⟨_,rfl⟩|⟨_,rfl⟩|⟨_,rfl⟩|⟨_,rfl⟩|⟨_,rfl⟩|⟨_,rfl⟩|⟨_,rfl⟩|⟨e,rfl⟩|⟨e,rfl⟩|⟨_,rfl⟩|⟨_,rfl⟩|⟨_,rfl⟩|⟨_,rfl⟩|⟨_,rfl⟩|⟨_,rfl⟩|⟨_,rfl⟩|⟨e,rfl⟩
 ·show KO c h f (oX f o).1
  unfold oX; split<;>exact h0
 ·show KO c h f (si f o).1
  have hr:=hp (hr.add (dL f.s.now o.path).1 (dL f.s.now o.path).2.1 o.n) (BQ hr _ _ _);unfold si; simp only[]; repeat' split
  all_goals first|exact h0|exact hr
 ·show KO c h f (se f o).1
  have hr:=hp (hr.ln (aD f.s.now.nodes (dX f.s.now o.path).1).ino (dL f.s.now o.lU).1 (dL f.s.now o.lU).2.1) (Fv hr _ _ _);unfold se; simp only[]; repeat' split
  all_goals first|exact h0|exact hr
 ·show KO c h f (kO f o).1
  have hr:=hp (hr.un (dL f.s.now o.path).1 (dL f.s.now o.path).2.1) (Fx hr _ _);unfold kO; simp only[]; repeat' split
  all_goals first|exact h0|exact hr
 ·show KO c h f (kL f o).1
  have hr:=hp (hr.mv (dL f.s.now o.path).1 (dL f.s.now o.path).2.1 (dL f.s.now o.lU).1 (dL f.s.now o.lU).2.1) (Fw hr _ _ _ _);unfold kL; simp only[]; repeat' split
  all_goals first|exact h0|exact hr
 ·show KO c h f (sf f o).1
  unfold sf; simp only[]; repeat' split
  all_goals exact h0
 ·show KO c h f (pf f o).1
  unfold pf; simp only[]; split<;>exact h0
 ·show KO c h f (sr f o).1
  have hh:=TK (c:=c) (h:=h) (c':=o.aV) (h':=o.handle) (fun x=>hn ⟨x.1,.inr ⟨.inl e,x.2⟩⟩) f.s.now f.holds (aD f.s.now.nodes (dX f.s.now o.path).1).ino
  unfold sr; simp only[]; repeat' split
  all_goals first|exact h0|exact⟨hh,fun _ _ _ hi=>hi⟩
 ·show KO c h f (nH f o).1
  obtain⟨h1,h2⟩:=AU (c:=c) (h:=h) (c':=o.aV) (h':=o.handle) (fun x=>hn ⟨x.1,.inr ⟨.inr e,x.2⟩⟩) hr f.holds
  unfold nH; simp only[]; split
  ·exact h0
  ·exact⟨h1,fun y _ hy hi=>by simp only[w8]; exact(h2 y hy).2 hi⟩
 ·show KO c h f (ik f o).1
  unfold ik; repeat' split
  all_goals exact h0
 ·show KO c h f (nU f o).1
  unfold nU; repeat' split
  all_goals first|exact h0|exact Fj c h hf o _ _
 ·show KO c h f (zp f o).1
  unfold zp; split
  ·exact h0
  ·exact Fj c h hf o _ _
 ·show KO c h f (nN f o).1
  have hr:=ui c h (f:=f) hr (fun _ h=>h) (lJ f.s.now f.bt (aD f.s.now.nodes (dX f.s.now o.path).1).ino o.n o.m).1
  unfold nN; simp only[]; repeat' split
  all_goals first|exact h0|exact hr
 ·show KO c h f (sV f o).1
  have ht:∀i,(takeN f.s i).1.now=f.s.now:=fun i=>by
   unfold takeN; repeat' split
   all_goals rfl
  unfold sV; simp only[]; repeat' split
  all_goals first|exact h0|exact⟨rfl,fun y _ _ hi=>by simp only[ht]; exact hi⟩
 ·show KO c h f (sv f o).1
  unfold sv; simp only[]; repeat' split
  all_goals exact h0
 ·show KO c h f (rS f o).1
  have ht:(p9 f.s o.n).1.now=f.s.now:=by
   unfold p9; split<;>rfl
  unfold rS; simp only[]; split
  ·exact h0
  ·exact⟨rfl,fun y _ _ hi=>by simp only[ht]; exact hi⟩
 ·show KO c h f (oJ f o).1
  obtain⟨h1,h2⟩:=zy (c:=c) (h:=h) (c':=o.aV) (fun x=>hn ⟨x,.inl e⟩) f.holds f.s.now f.holds hr
  unfold oJ uK; simp only[];exact⟨h1,fun y _ hy hi=>by simp only[w8]; exact(h2 y hy).2 hi⟩
def Wo{c h:Int}{f:aa}{o:dG}(hf:oo f)(hn:¬Ej o c h):KO c h f (kd f o).1:=by
 unfold kd;split
 ·exact KO.refl _ _ _
 ·rename_i K hk;split
  ·split
   ·exact Ud hf hk hn
   ·exact KO.refl _ _ _
  ·exact KO.refl _ _ _
abbrev rr(c h:Int):dG:=⟨10,c,[],[],0,0,h,[]⟩
def Cm(f:aa){c h:Int}(h0:0<=c)(h1:c<16):(kd f (rr c h)).2.err=(mZ f.holds c h).2/\((mZ f.holds c h).2=0->(kd f (rr c h)).2.ino=(aD f.s.now.nodes (mZ f.holds c h).1).ino)/\((mZ f.holds c h).2≠0->(kd f (rr c h)).2.ino=0):=by
 have e1:cD gL (rr c h).kind=some 70:=rfl;unfold kd;rw[e1];simp only;rw[if_pos ⟨h0,h1⟩];change(if (ik f (rr c h)).2.2=0 then ((ik f (rr c h)).1,(ik f (rr c h)).2.1) else (f,cI (ik f (rr c h)).2.2)).2.err=_/\(_->(if (ik f (rr c h)).2.2=0 then ((ik f (rr c h)).1,(ik f (rr c h)).2.1) else (f,cI (ik f (rr c h)).2.2)).2.ino=_)/\(_->(if (ik f (rr c h)).2.2=0 then ((ik f (rr c h)).1,(ik f (rr c h)).2.1) else (f,cI (ik f (rr c h)).2.2)).2.ino=_)
 unfold ik dh
 by_cases hz:(mZ f.holds c h).2=0
 ·simp[hz]
 ·have hz':((mZ f.holds c h).2 != 0)=true:=by simpa using hz
  simp[hz',hz,cI]
def apart{f:aa}{o:dG}(hf:oo f)(hh:∀y,y∈f.holds->j5 f.s.now.nodes y.ino){c h:Int}(h0:0<=c)(h1:c<16)(hn:¬Ej o c h) :
  (kd f (rr c h)).2.err=(kd (kd f o).1 (rr c h)).2.err/\(kd f (rr c h)).2.ino=(kd (kd f o).1 (rr c h)).2.ino:=by
 obtain⟨k1,k2⟩:=Wo (c:=c) (h:=h) hf hn;obtain⟨a1,a2,a3⟩:=Cm f (h:=h) h0 h1;obtain⟨b1,b2,b3⟩:=Cm (kd f o).1 (h:=h) h0 h1;generalize kd f (rr c h)=A at *;generalize kd (kd f o).1 (rr c h)=B at *;generalize (kd f o).1=g at *;have hi:mZ g.holds c h=mZ f.holds c h:=by unfold mZ; rw[k1]
 rw[hi] at b1 b2 b3;refine⟨by rw[a1,b1],?_⟩
 by_cases hz:(mZ f.holds c h).2=0
 ·rw[a2 hz,b2 hz];cases hfi:f.holds.find? (dP c h) with
  |none=>simp[mZ,hfi] at hz
  |some y =>
   have e:(mZ f.holds c h).1=y.ino:=by simp[mZ,hfi]
   rw[e];have hy:=List.mem_of_find?_eq_some hfi;have hyg:y∈g.holds:=List.mem_of_find?_eq_some (k1.trans hfi);have f1:=hh y hy;obtain⟨m,m1,_⟩:=k2 y hy hyg f1;obtain⟨n,n1,_⟩:=f1;have e1:aD f.s.now.nodes y.ino=n:=by simp[aD,n1]
   have e2:aD g.s.now.nodes y.ino=m:=by simp[aD,m1]
   rw[e1,e2,(bh n1).2,(bh m1).2]
 ·rw[a3 hz,b3 hz]
end Go.Proofs.YtahkjijkflobhaaGreatDoor
