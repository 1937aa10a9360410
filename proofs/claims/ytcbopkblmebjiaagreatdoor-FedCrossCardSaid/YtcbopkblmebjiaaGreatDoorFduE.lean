import Derived.Test.YtcbopkblmebjiaaGreatDoorFduD
set_option linter.unusedSimpArgs false
set_option linter.unusedVariables false
set_option linter.unusedSectionVars false
set_option linter.defProp false
open Go.Proofs.Tryz
namespace Go.Proofs.YtcbopkblmebjiaaGreatDoor
open Go Go.Abs
section
def rO{s:Bytes}(h:dB s=true):s.length<=32:=by
 unfold dB at h;simp only[bm,gS,jj,dk] at h;omega
def IU:∀(x:List (Bytes×Bool)) (n:Nat) (l:List Bytes),nD x n=some l->n<=12->(∀s,s∈l->dB s=true)/\l.length+n<=12
 | [],n,l,h,hn=>by
  simp only[nD,iz] at h;subst h;exact⟨fun s hs=>by simp at hs,by simp; omega⟩
 |x::r,n,l,h,hn=>by
  rw[nD] at h;split at h
  ·cases h
  ·rename_i hb;cases hr:nD r (n+1) with
   |none=>rw[hr] at h; cases h
   |some k =>
    rw[hr] at h;simp only[cz,iz] at h;subst h;have hb':zL x n=false:=by simpa using hb
    unfold zL at hb';simp only[jj,Bool.not_eq_false',bL] at hb';obtain⟨g1,g2⟩:=IU r (n+1) k hr (by omega)
    refine⟨fun s hs=>?_,by simp; omega⟩
    rcases bb.1 hs with h1|h1
    ·subst h1; exact hb'.1.2
    ·exact g1 s h1
def lx(s:Bytes):(∀x,x∈(bw s).1->dB x=true)/\(bw s).1.length<=12:=by
 unfold bw;split
 ·exact⟨fun s hs=>by simp at hs,by simp⟩
 ·split
  ·exact⟨fun s hs=>by simp at hs,by simp⟩
  ·exact⟨fun s hs=>by simp at hs,by simp⟩
  ·rename_i l hl;obtain⟨g1,g2⟩:=IU _ 0 _ hl (by omega)
   exact⟨g1,by omega⟩
def Du:∀l:List Bytes,AQ (l.map ag.str)=some l
 | []=>rfl
 |s::r=>by
  show bI (AQ (r.map ag.str)) (fun l=>some (s::l))=_
  rw[Du r]; rfl
def CT(l:List Bytes)(h:∀x,x∈l->dB x=true):(Lib.join l [47]).length<=33*l.length:=by
 induction l with
 |nil=>simp[Lib.join]
 |cons a r ih =>
  have h1:=rO (h a (by simp))
  have h2:=ih (fun x hx=>h x (by simp[hx]))
  cases r with
  |nil=>simp[Lib.join]; omega
  |cons b r=>simp[Lib.join] at h2 ⊢; omega
def pq(l:List Bytes):Bytes:=if (l.length:Int)==0 then [47] else [47]++Lib.join l [47]
def uU(l:List Bytes)(h:∀x,x∈l->dB x=true)(hl:l.length<=12):(pq l).length<=1000:=by
 unfold pq;have:=CT l h;split<;>simp<;>omega
def ak2(l:List Bytes)(h:∀x,x∈l->dB x=true)(hl:l.length<=12)(M:aK):aL (aq cY) 131 [fL l,.str [47]] M=some (.str (Lib.join l [47]),M):=by
 have hq:aq cY 131 [fL l,.str [47]] []=some (.str (Lib.join l [47]),[]):=by
  refine gy (g:=Iw) rfl ?_;unfold Iw;simp only[];rw[Du,bZ,az];have:=CT l h;omega
 exact cO hq M
attribute [local irreducible] fP fi kD gK dp kr aq aL ct bI
def c65(l:List Bytes)(h:∀x,x∈l->dB x=true)(hl:l.length<=12):aq cY 65 [fL l] []=some (.str (pq l),[]):=by
 refine aI ?_;have q:=ak2 l h hl;have hm:(IntKind.i64.max<((1+(Lib.join l [47]).length:Nat):Int))=False:=max_lt _ (by have:=CT l h; omega)
 unfold pq;simp only[ags,E65,q,EW,seval];cases h0:(l.length:Int)==0<;>simp only[E65,h0,af,aE,aw,q,hm,EW,seval]
def k65 l h hl:=cP (c65 l h hl)
def fy(s:Bytes):Bytes×Bytes×Int :=
 if (bw s).2 != 0||(((bw s).1.length:Int)==0) then ([],[],60)
 else ((bw s).1.getD ((bw s).1.length-1) [],pq ((bw s).1.take ((bw s).1.length-1)),0)
def ajX(s:Bytes)(hs:s.length<=100000):aq fO 161 [.str s] []=some (.tuple [.str (fy s).1,.str (fy s).2.1,.int .i64 (fy s).2.2],[]):=by
 refine aI ?_;have q:=k63 s hs;obtain⟨h1,h2⟩:=lx s;unfold fy;generalize bw s=l at q h1 h2 ⊢;obtain⟨l,e⟩:=l;simp only at h1 h2;have q2:=fun M=>lS (k65 (l.take (l.length-1)) (fun x hx=>h1 x (di hx)) (by simp; omega) M)
 simp only[fL,j7] at q2;simp only[Yn,Uy,q,EW,seval];cases he:e != 0
 ·cases h0:(l.length:Int)==0
  ·have hne:0<l.length:=by
    have:¬((l.length:Int)=0):=by simpa using h0
    omega
   have hw:IntKind.i64.wrap ((l.length:Int)-1)=((l.length-1:Nat):Int):=by rw[gx (by omega) (by omega)]; omega
   have hx:=aj (show l.length-1<l.length by omega)
   have hg:l.getD (l.length-1) []=l[l.length-1]:=by simp[List.getD,hx]
   have hle:((l.length-1:Nat):Int)<=(l.length:Int):=by omega
   have hz:((0:Int)<=((l.length-1:Nat):Int))=True:=by simp
   simp only[Uy,he,h0,hw,hx,q2,hg,hle,hz,dE,af,aw,EW,seval]
  ·simp only[Uy,he,h0,dG,aE,EW,seval]
 ·simp only[Uy,he,dH,aE,EW,seval]
def aa5 s hs:=cP (ajX s hs)
def tn(s:Bytes)(_hs:s.length<=100000):(fy s).1.length<=1000/\(fy s).2.1.length<=1000:=by
 obtain⟨h1,h2⟩:=lx s;unfold fy;split
 ·exact⟨by simp,by simp⟩
 ·refine⟨?_,uU _ (fun x hx=>h1 x (di hx)) (by simp; omega)⟩
  simp only[List.getD];cases hx:(bw s).1[(bw s).1.length-1]? with
  |none=>simp
  |some x=>have:=rO (h1 x (aQ hx)); simp; omega
def pP(ae:List Node):List Bytes->Int->Int×Int
 | [],au=>(au,0)
 |s::r,au=>if (dR ae au s).2 != 0 then (0,(dR ae au s).2) else pP ae r (dR ae au s).1
def eB(t:Tree)(aR:Bytes):Int×Int:=if (bw aR).2 != 0 then (0,(bw aR).2) else pP t.ae (bw aR).1 1
def Wq{t:Tree}(ht:Small t)(hr:we t){xs:List Bytes}(hxs:∀x,x∈xs->x.length<=100000)(hn:xs.length<=100000) :
  ∀(l pre:List Bytes)(au:Int),xs=pre++l->fP (aq fO) [.tmp 4,.tmp 5] 0 [.block 0,.seq adh] (.loop [2,8,19,20,21] V2) [(2,.ptr 0 0),(8,.int .i64 au),(19,fL xs),(20,.int .i64 xs.length),(21,.int .i64 pre.length)] [.cells (bc t)] =
   some (.tuple [.int .i64 (pP t.ae l au).1,.int .i64 (pP t.ae l au).2],[]):=by
 intro l;induction l with
 |nil =>
  intro pre au h;rw[bX];simp only[Jd,ot h,bc,pP,EW,seval]
 |cons s rest ih =>
  intro pre au h;rw[bX];have eU:pre.length+1<=100000:=by rw[h] at hn; simp at hn; omega
  have hw:=GD pre s;have hi1:=ih (pre++[s]) (dR t.ae au s).1 (by rw[h]; simp)
  have q:=fun M=>lS (VD t.ae t.next t.ai au s ht hr (hxs s (by rw[h]; simp)) trivial M)
  rw[pP];generalize dR t.ae au s=v at q hi1 ⊢;simp only[aJ,av,aG,aP,bc] at hi1;simp only[Jd,mM h,jf h,bc,q,EW,seval];cases he:v.2 != 0
  ·simp only[Jd,he,hw,af,aw,EW,seval];exact hi1
  ·simp only[Jd,he,aE,EW,seval]
def ajU(t:Tree)(aR:Bytes)(ht:Small t)(hr:we t)(hp:aR.length<=100000):aq fO 156 [bJ t,.str aR] []=some (.tuple [.int .i64 (eB t aR).1,.int .i64 (eB t aR).2],[]):=by
 refine aI ?_;have q:=k63 aR hp;obtain⟨h1,h2⟩:=lx aR;have hl:=Wq ht hr (xs:=(bw aR).1) (fun x hx=>by have:=rO (h1 x hx); omega) (by omega) (bw aR).1 [] 1 rfl
 unfold eB;generalize bw aR=v at q hl ⊢;simp only[bc,aG] at hl;simp only[Yk,Jd,bJ,bc,q,EW,seval];cases he:v.2 != 0
 ·simp only[Jd,he,af,aw,EW,seval];exact hl
 ·simp only[Jd,he,aE,EW,seval]
def VB(t:Tree)(aR:Bytes)(ht:Small t)(hr:we t)(hp:aR.length<=100000)(M:aK):aL (aq fO) 156 [.agg [aZ t.ae,.int .i64 t.next,.int .i64 t.ai],.str aR] M=some (.tuple [.int .i64 (eB t aR).1,.int .i64 (eB t aR).2],M) :=
 cO (ajU t aR ht hr hp) M
def iV(e:Int):ag := .oy (.iface 34 (.int .i64 e))
end
section
attribute [local irreducible] fP fi kD gK dp kr aq aL ct bI
def cn.iq{t:Tree}{cf:Int->Nat}{x:Int}(h:cn t cf x):∀m,m∈t.ae->m.au<t.next:=fun m hm=>(h.num _ _ ((ft h.jB.ju).2 ⟨hm,rfl⟩)).2
end
def cn.Dy{t:Tree}{cf:Int->Nat}{x:Int}(h:cn t cf x){i:Int}{n:Node}(hi:find t.ae i=some n)(hk:n.kind=2):sa t.ae i=cf i:=by
 simp only[sa,h.sn hi hk]; omega
def cn.OG{t:Tree}{cf:Int->Nat}{x:Int}(h:cn t cf x)(of:Int):∀(m:Nat)(i:Int)(out:List Int)(n:Node),find t.ae i=some n->n.kind=2->cf i<=m->out.contains i=true->(ru t.ae m i out).contains of=(out.contains of||mg t.ae of (m+1) i):=by
 intro m;induction m with
 |zero =>
  intro i out n hi hk hd ho;simp only[ru,mg]
  by_cases h1:i=of
  ·subst h1; rw[ho]; rfl
  ·simp[h1]
 |succ m ih =>
  intro i out n hi hk hd ho;simp only[ru];rw[mg]
  by_cases h1:i=1
  ·by_cases h2:i=of
   ·subst h2; simp[h1] at ho ⊢; exact ho
   ·simp[h1,h2];intro h3; exact absurd (h1.trans h3) h2
  ·obtain⟨a,p,b,c⟩:=h.sy _ _ hi hk h1;simp only[gd,ne_eq,h1,mc,↓reduceIte,bD,hi,c9,cU,bz,hk,an,dE,af];rw[ih _ _ p b c (by omega) (by simp),h.Uk hi]
   by_cases h2:i=of
   ·subst h2;have:(out++[n.up]).contains i=true:=by simp at ho ⊢; exact .inl ho
    rw[this,ho]; simp
   ·rw[ak h2]
    by_cases h3:n.up=of
    ·have:mg t.ae of (m+1) n.up=true:=by simp[mg,h3]
     rw[this]; simp
    ·have:(out++[n.up]).contains of=out.contains of:=by
      simp;intro hh; exact absurd hh.symm h3
     rw[this]
def cn.xW{t:Tree}{cf:Int->Nat}{x:Int}(h:cn t cf x)(of:Int){i:Int}{n:Node}(hi:find t.ae i=some n)(hk:n.kind=2):(rS t.ae i).contains of=iR t.ae i of:=by
 have:=h.OG of t.ae.length i [i] n hi hk (by have:=h.yh hi hk; omega) (by simp)
 simp only[rS,this,iR]
 by_cases h2:i=of
 ·subst h2; simp[mg]
 ·have:([i]:List Int).contains of=false:=by simp; exact fun hh=>h2 hh.symm
  rw[this]; rfl
def cn.under{t:Tree}{cf:Int->Nat}(h:cn t cf 0){to:Int}{nm:Bytes}{dT:Node}(hT:find t.ae to=some dT):(lr t.ae dT.aM nm).au=dY dT.aM nm:=by
 unfold lr dY;cases he:dX dT.aM nm with
 |none=>rfl
 |some e =>
  obtain⟨_,_,_,_,m,hm,_⟩:=h.wB _ _ e hT (eu he).1;simp[bD,hm,(cg hm).2]
def S1{t:Tree}{cf:Int->Nat}(h:cn t cf 0)(dir:Int)(s:Bytes):oJ t dir s=mn t dir s:=by
 unfold oJ mn
 by_cases h0:(gw t.ae dir).2=0
 ·obtain⟨d,d1,d2,d3⟩:=yi h0
  have hf:CJ t d=(decide ((64:Int)<=d.aM.length)||(decide ((12:Int)<=sa t.ae dir)||decide ((1099511627776:Int)<=t.ai))):=by
   unfold CJ;rw[(cg d1).2,h.pD d1 d2,h.Dy d1 d2]
  simp only[d3,hf,an,af,↓reduceIte,ne_eq,not_true_eq_false];cases dB s<;>simp
 ·rw[az (by simpa using h0),az h0]
def UN{t:Tree}{cf:Int->Nat}(h:cn t cf 0)(dir:Int)(s:Bytes)(kind:Int):Jt t dir s kind=nk t dir s kind:=by
 unfold Jt nk;rw[S1 h]
def acJ{t:Tree}{cf:Int->Nat}(h:cn t cf 0)(au dir:Int)(s:Bytes):lnW t au dir s=BC t au dir s:=by
 unfold lnW BC;rw[S1 h]
def Bv{ae:List Node}{x:Int}{m:Node}(hx:find ae x=some m):j4 ae m=gi ae x:=by
 unfold j4 gi;simp only[bD,hx,bz,(cg hx).2]
def adw{t:Tree}{cf:Int->Nat}(h:cn t cf 0)(dir:Int)(s:Bytes):Zy t dir s=vF t dir s:=by
 unfold Zy vF;split
 ·rfl
 ·rename_i hl;obtain⟨d,e,d1,d2,d3,d4,d5⟩:=look_ok (by simpa using hl)
  simp only[d5];obtain⟨_,_,_,_,m,hm,_⟩:=h.wB _ _ e d1 (eu d4).1
  have hm':find (dr t.ae dir s) e.au=some m:=by
   rw[iT h.jB.ju d1,ak (h.vw d1 (eu d4).1)]; exact hm
  have hn:bD t.ae e.au=m:=by simp[bD,hm]
  rw[hn,Bv hm']
def Eg(ae:List Node)(au at' d:Int)(b:Int):∀(l:List Node)(most:Int),b<vz ae au at' d l most->b<most\/∃n,n∈l/\(n.kind==2&&iR ae n.au au)=true/\b<uu ae at' d n
 | [],most,h => .inl h
 |m::l,most,h=>by
  rw[vz] at h;rcases Eg ae au at' d b l _ h with h1|⟨n,h1,h2,h3⟩
  ·have e:sk ae au at' d m most=if m.kind==2&&iR ae m.au au then (if uu ae at' d m>most then uu ae at' d m else most) else most:=rfl
   rw[e] at h1;split at h1
   ·rename_i hb;split at h1
    ·exact .inr ⟨m,aD,hb,h1⟩
    ·exact .inl h1
   ·exact .inl h1
  ·exact .inr ⟨n,aO _ h1,h2,h3⟩
def cn.U9{t:Tree}{cf:Int->Nat}(h:cn t cf 0){x to:Int}{m:Node}(hx:find t.ae x=some m)(hk:m.kind=2)(hd:cf to<12) :
  Hj t.ae x (((cf to+1:Nat):Int))=decide ((12:Int)<Bc t.ae x (((cf to+1:Nat):Int))):=by
 have key:∀n,n∈t.ae->tD t.ae (((cf to+1:Nat):Int)) ((cf x:Nat):Int) x n=((n.kind==2&&iR t.ae n.au x)&&decide ((12:Int)<uu t.ae (((cf to+1:Nat):Int)) ((cf x:Nat):Int) n)):=by
  intro n hn;have hi:find t.ae n.au=some n:=(ft h.jB.ju).2 ⟨hn,rfl⟩;unfold tD
  by_cases hk2:n.kind=2
  ·rw[h.xW x hi hk2,h.sn hi hk2]
   by_cases hb:iR t.ae n.au x=true
   ·rw[h.Ef hx hk hd hi hk2 hb];have d1:=(h.deep _ _ hi hk2).1;have d2:=(h.deep _ _ hx hk).1;have d3:=h.zO _ _ n hi hk2 rfl hb;have w1:mG ((((cf to+1:Nat):Int))+((cf n.au+1:Nat):Int))=(((cf to+1:Nat):Int))+((cf n.au+1:Nat):Int):=gx (by omega) (by omega)
    have w2:mG ((((cf to+1:Nat):Int))+((cf n.au+1:Nat):Int)-1)=(((cf to+1:Nat):Int))+((cf n.au+1:Nat):Int)-1:=gx (by omega) (by omega)
    have w3:mG ((((cf to+1:Nat):Int))+((cf n.au+1:Nat):Int)-1-(cf x:Nat))=(((cf to+1:Nat):Int))+((cf n.au+1:Nat):Int)-1-(cf x:Nat):=gx (by omega) (by omega)
    rw[w1,w2,w3];unfold rl;rw[az hb,hb];simp only[hk2,ei,bP];rw[eb];simp only[cJ,bm,bt,dM];split<;>omega
   ·have:iR t.ae n.au x=false:=by simpa using hb
    simp[this]
  ·have:(n.kind==2)=false:=by simpa using hk2
   simp[this]
 have hdx:(sa t.ae x:Int)=((cf x:Nat):Int):=by rw[h.Dy hx hk]
 unfold Hj Bc;rw[h.pD hx hk,hdx];rw[eb];simp only[List.any_eq_true,bt];constructor
 ·rintro⟨n,hn,hp⟩;rw[key n hn] at hp;simp only[bm,bt] at hp;have:=(Ae t.ae x (((cf to+1:Nat):Int)) ((cf x:Nat):Int) t.ae 0).2 n hn (by simp[hp.1.1,hp.1.2])
  omega
 ·intro hh;rcases Eg t.ae x _ _ 12 t.ae 0 hh with h1|⟨n,h1,h2,h3⟩
  ·omega
  ·exact⟨n,h1,by rw[key n h1,h2]; simpa using h3⟩
def acR{t:Tree}{cf:Int->Nat}(h:cn t cf 0)(f:Int)(s:Bytes)(to:Int)(nm:Bytes):Mb t f s to nm=wa t f s to nm:=by
 unfold Mb wa;split
 ·rfl
 rename_i c1;split
 ·rfl
 rename_i c2;split
 ·rfl
 obtain⟨dF,e,e1,e2,e3,e4,e5⟩:=look_ok (by simpa using c1)
 obtain⟨dT,g1,g2,g3⟩:=yi (show(gw t.ae to).2=0 by simpa using c2)
 have hem:=(eu e4).1;obtain⟨_,_,x1,_,m,hm,hup⟩:=h.wB _ _ e e1 hem;have hnode:bD t.ae e.au=m:=by simp[bD,hm]
 simp only[e5,g3,hnode,h.under g1,h.xW e.au g1 g2];split
 ·rfl
 rename_i c4;split
 ·rfl
 rename_i c5;have hup':dY dT.aM nm≠e.au:=by simpa using c4
 have hnf:=h.vw e1 hem
 have hne:e.au≠to:=fun hh=>by
  rw[hh,g1] at hm; cases hm;simp only[g2,ei,bP] at c5;rw[hh,cn.rC] at c5;exact c5 rfl
 have hmany:∀there:Bool,(dY dT.aM nm==0) = !there->C2 t f to dT.aM there m.kind e.au=manyN t f to dT.aM m.kind (dY dT.aM nm) e.au:=by
  intro there hth;unfold C2 manyN;rw[hth,h.sn g1 g2,h.pD g1 g2]
  by_cases hd:cf to<12
  ·have hw:mG (((cf to:Nat):Int)+1)=((cf to+1:Nat):Int):=by
    rw[show(((cf to:Nat):Int)+1)=((cf to+1:Nat):Int) by omega]
    exact gx (by omega) (by omega)
   rw[hw]
   have hdd:decide ((12:Int)<((cf to+1:Nat):Int))=decide ((12:Int)<=((cf to:Nat):Int)):=by
    rw[decide_eq_decide]; omega
   rw[hdd];rcases h.kind _ _ hm with hk|hk
   ·simp[hk]
   ·rw[h.U9 hm hk hd]
  ·have h1:decide ((12:Int)<((cf to+1:Nat):Int))=true:=by rw[bt]; omega
   have h2:decide ((12:Int)<=((cf to:Nat):Int))=true:=by rw[bt]; omega
   rw[h1,h2]; simp
 cases hfr:dX dT.aM nm with
 |none =>
  have hu:dY dT.aM nm=0:=by simp[dY,hfr]
  have hm1:=hmany false (by rw[hu]; rfl)
  rw[hu] at hm1 ⊢;have hcl:sv t.ae m.kind 0=0:=by simp[sv,h.zero]
  simp only[iW,cd,af,↓reduceIte,hcl,an,hm1];split
  ·rfl
  ·unfold xV nU;simp only[hnode,af,↓reduceIte,an]
 |some e2 =>
  have hu:dY dT.aM nm=e2.au:=by simp[dY,hfr]
  obtain⟨_,_,_,_,y,hy,_⟩:=h.wB _ _ e2 g1 (eu hfr).1;have hny:bD t.ae e2.au=y:=by simp[bD,hy]
  have hto:=h.vw g1 (eu hfr).1;have hy0:=(h.num _ _ hy).1;have hm1:=hmany true (by rw[hu]; simp; omega)
  have hnu:lr t.ae dT.aM nm=y:=by simp[lr,hfr,hny]
  rw[hu] at hm1 ⊢
  have hcl:sv t.ae m.kind e2.au=zl m y:=by
   unfold sv zl;simp only[hy,c9,cU,af,↓reduceIte,hny]
  rw[hnu,hcl];simp only[c9,bP,hm1];split
  ·rfl
  rename_i c6;split
  ·rfl
  have hy00:y.aM=[]:=by
   have:zl m y=0:=by simpa using c6
   unfold zl at this;split at this
   ·cases this
   split at this
   ·cases this
   split at this
   ·cases this
   ·rename_i k3; exact cq.1 (by simpa using k3)
  have hnf2:e2.au≠f:=fun hh=>by
   rw[hh,e1] at hy; cases hy;rw[hy00] at hem; cases hem
  have hyl:find (dr (dr t.ae f s) to nm) e2.au=some y:=by
   have f1:=iT h.jB.ju e1 (s:=s);obtain⟨dT',hT'⟩:∃dT',find (dr t.ae f s) to=some dT':=by rw[f1]; split<;>simp_all
   rw[iT (ll h.jB.ju f s) hT',ak hto,f1,ak hnf2];exact hy
  have hb:(e2.au != 0)=true:=by simp; omega
  unfold xV nU;simp only[hnode,↓reduceIte,hb,Bv hyl]
def U2{C:eL}{f p:Nat}{x:ew}{r:ag}{M:aK}{z:Int}(hM:nth M p=some (.cells [.int .i64 z]))(h:C f [.agg (eo x),.ptr 0 0] [.cells [.int .i64 z]]=some (r,[.cells [.int .i64 z]]))(h3:r.wF=true)(h5:r.BE (xg [p])=r) :
  aL C f [.agg (eo x),.ptr p 0] M=some (r,M):=by
 have hids:[ag.agg (eo x),.ptr p 0].flatMap ag.ids=[p]:=rfl;have hi:sL M [p]=[]:=by simp[sL,hM,cA.ids,ag.mL,ag.hU]
 have e0:lR M [p]=[p]:=by simp[lR,hi,lP]
 have e1:reach M [p]=[p]:=by
  have ea:lP [] [p]=[p]:=rfl;simp only[reach,ea,e0]
 have hfl:[ag.agg (eo x),.ptr p 0].all ag.flat=true:=rfl;unfold aL;rw[az hfl,hids,e1];have hpk:ke M (iC [p]) [p]=some [.cells [.int .i64 z]]:=by simp[ke,hM,cA.flat,cA.rn,ag.sY,ag.tV,ag.vP,ag.D9]
 rw[hpk];simp only[bZ];rw[az e0]
 have hrn:[ag.agg (eo x),.ptr p 0].map (ag.rn (iC [p]))=[ag.agg (eo x),.ptr 0 0]:=by
  simp[ag.rn,ag.sY,ag.tV,iC,eo]
 rw[hrn,h];simp only[bZ];rw[az ⟨by trivial,h3,rfl⟩,h5]
 have hs:mw [p] M [p] [.cells [.int .i64 z]]=M:=by
  simp only[mw,cA.rn,aV,bo,ag.sY,ag.tV];exact um hM
 rw[hs]
def ahS(xs:List ag)(z:Int):ke [.arr 3 0 xs,.cells [.int .i64 z]] (iC [0,1]) [0,1]=some [.arr 3 0 xs,.cells [.int .i64 z]]:=rfl
section
attribute [local irreducible] fP fi kD gK dp kr aq aL ct bI
def aki(e:ew)(z:Int):aq cY 219 [gh e,.ptr 0 0] [.cells [.int .i64 z]]=some (.bool (decide (e.ai<z)),[.cells [.int .i64 z]]):=by
 refine aI ?_;simp only[YI,aiR,gh,eo,EN,seval]
def ag8(e:ew)(z:Int)(p:Nat)(M:aK)(hM:nth M p=some (.cells [.int .i64 z])):aL (aq cY) 219 [.agg (eo e),.ptr p 0] M=some (.bool (decide (e.ai<z)),M) :=
 U2 hM (aki e z) rfl rfl
def Ag(z:Int):List ew->Nat->Int
 | [],_ => -1
 |e::r,i=>if decide (e.ai<z) then (i:Int) else Ag z r (i+1)
def Wy{xs:List ew}{z:Int}(hn:xs.length<=100000){k:List K}{R:Int->Option (ag×aK)}
  (hx:∀e,kr (aq cY) [.tmp 4] 2 k ⟨.exit 0,e,[.arr 3 0 (xs.map gh),.cells [.int .i64 z]]⟩=R (-1)) (hr:∀(i:Nat),kr (aq cY) [.tmp 4] 2 k ⟨.ret,[(4,.int .i64 i)],[.arr 3 0 (xs.map gh),.cells [.int .i64 z]]⟩=R i) :
  ∀(l pre:List ew),xs=pre++l->fP (aq cY) [.tmp 4] 2 k (.loop [0,1,7,8] V8) [(0,.dg 0 0 3 0 xs.length),(1,.func 219 [.ptr 1 0]),(7,.int .i64 xs.length),(8,.int .i64 pre.length)] [.arr 3 0 (xs.map gh),.cells [.int .i64 z]]=R (Ag z l pre.length):=by
 intro l;induction l with
 |nil =>
  intro pre h;rw[bX];simp only[FL,ot h,EN,seval];exact hx _
 |cons n rest ih =>
  intro pre h;rw[bX];have eU:pre.length+1<=100000:=by rw[h] at hn; simp at hn; omega
  have hw:=GD pre n;have hi:=ih (pre++[n]) (by rw[h]; simp)
  simp only[aJ,av,aG] at hi;have q59:=fun e=>ag8 e z 1 [.arr 3 0 (xs.map gh),.cells [.int .i64 z]] rfl
  have cr:((pre.length:Int)<((xs.length-0:Nat):Int))=True:=by simp only[fe,jM]; rw[h]; simp; omega
  rw[Ag];simp only[FL,mM h,jf h,tkE,shE,q59,cr,EN,seval];refine bK (fun hb=>?_) (fun hb=>?_)
  ·simp only[FL,hb,EN,seval];exact hr _
  ·simp only[FL,hb,hw,af,EN,seval];exact hi
def aku(xs:List ew)(z:Int)(hn:xs.length<=100000):aq cY 246 [.dg 0 0 3 0 xs.length,.func 219 [.ptr 1 0]] [.arr 3 0 (xs.map gh),.cells [.int .i64 z]]=some (.int .i64 (Ag z xs 0),[.arr 3 0 (xs.map gh),.cells [.int .i64 z]]):=by
 refine aI ?_;simp only[Qi,FL,bU,EN,seval];exact Wy (R:=fun i=>some (.int .i64 i,[.arr 3 0 (xs.map gh),.cells [.int .i64 z]])) hn (fun e=>by simp only[FL,EN,seval]) (fun i=>by simp only[FL,EN,seval]) xs [] rfl
def alz(xs:List ew)(z:Int)(hn:xs.length<=100000):aL (aq cY) 246 [.dg 0 0 3 0 xs.length,.func 219 [.ptr 1 0]] [.arr 3 0 (xs.map gh),.cells [.int .i64 z]]=some (.int .i64 (Ag z xs 0),[.arr 3 0 (xs.map gh),.cells [.int .i64 z]]) :=
 lL (ids:=[0,1]) rfl rfl (ahS ..) rfl rfl (aku xs z hn) rfl rfl rfl rfl rfl
def je(z:Int)(l:List ew):List ew:=l.filter fun e => !decide (e.ai<z)
def yv(z:Int)(x:ew)(l:List ew):je z (x::l)=if decide (x.ai<z) then je z l else x::je z l:=by
 unfold je;rw[hV];cases decide (x.ai<z)<;>rfl
def T4(xs:List ew)(b:Nat)(o n:ew)(h:xs[b]?=some o):(jZ (xs.map gh) b (putCells (gh o) 0 (eo n)))=(xs.set b n).map gh:=by
 have:putCells (gh o) 0 (eo n)=gh n:=rfl;rw[this,fN,kR]
def ade(x:ew):(eo x).all ag.plainCell=true:=rfl
def Ww{z:Int}{N:Nat}(hN:N<=100000){k:List K}{R:List ew->Nat->Option (ag×aK)}
  (hx:∀(A G:List ew) v q,A.length+G.length=N->G≠[]->kr (aq cY) [.tmp 4] 2 k ⟨.exit 0,[(0,.dg 0 0 3 0 N),(1,.func 219 [.ptr 1 0]),(5,.int .i64 A.length),(6,v),(19,q)],[.arr 3 0 ((A++G).map gh),.cells [.int .i64 z]]⟩=R A G.length) :
  ∀(T A G:List ew),A.length+G.length+T.length=N->G≠[]->fP (aq cY) [.tmp 4] 2 k (.loop [0,1,5,6] V7) [(0,.dg 0 0 3 0 N),(1,.func 219 [.ptr 1 0]),(5,.int .i64 A.length),(6,.int .i64 ((A.length+G.length:Nat):Int))] [.arr 3 0 ((A++G++T).map gh),.cells [.int .i64 z]]=R (A++je z T) (N-(A++je z T).length):=by
 intro T;induction T with
 |nil =>
  intro A G hl hg;have cr:(((A.length+G.length:Nat):Int)<((N-0:Nat):Int))=False:=by simp only[fe,mb]; simp at hl ⊢; omega
  have hk:je z []=[]:=rfl;have hgl:N-(A++je z []).length=G.length:=by rw[hk]; simp at hl ⊢; omega
  rw[hgl,hk,bV,bV];rw[bX];simp only[FF,cr,EN,seval];exact hx A G _ _ (by simpa using hl) hg
 |cons x T ih =>
  intro A G hl hg;simp only[av] at hl;have cr:(((A.length+G.length:Nat):Int)<((N-0:Nat):Int))=True:=Az;have hnn:((0:Int)<=((A.length+G.length:Nat):Int))=True:=Az
  have hat:(A++G++x::T)[A.length+G.length]?=some x:=by
   rw[bq (by simp)]; simp
  have hw:IntKind.i64.wrap (((A.length+G.length:Nat):Int)+1)=((A.length+G.length+1:Nat):Int):=by rw[gx (by omega) (by omega)]; omega
  have hw1:IntKind.i64.wrap ((A.length:Int)+1)=((A.length+1:Nat):Int):=by rw[gx (by omega) (by omega)]; omega
  have q59:=fun e a b M=>ag8 e z 1 (a :: .cells [.int .i64 z]::b::M) rfl
  obtain⟨g,G',hG⟩:=fm hg;have hga:(A++G++x::T)[A.length]?=some g:=by rw[hG]; simp
  have hset:(A++G++x::T).set A.length x=(A++[x])++(G'++[x])++T:=by rw[hG]; simp
  have hlt2:((A.length:Int)<((N-0:Nat):Int))=True:=Az;have h1:=ih (A++[x]) (G'++[x]) (by rw[hG] at hl; simp at hl ⊢; omega) (by simp)
  have h2:=ih A (G++[x]) (by simp; omega) (by simp)
  have hl1:(((A++[x]).length+(G'++[x]).length:Nat):Int)=((A.length+G.length+1:Nat):Int):=by rw[hG]; simp; omega
  have hl2:((A.length+(G++[x]).length:Nat):Int)=((A.length+G.length+1:Nat):Int):=by simp; omega
  have hl3:((A++[x]).length:Int)=((A.length+1:Nat):Int):=by simp
  have e2:A++(G++[x])++T=A++G++x::T:=by simp
  have e1:A++[x]++je z T=A++x::je z T:=by simp
  rw[hl1,hl3,e1] at h1;rw[hl2,e2] at h2;simp only[aJ,av] at h1 h2;have hput:=T4 (A++G++x::T) A.length g x hga;rw[hset] at hput;rw[yv];rw[bX];simp only[FF,cr,hnn,hat,tkE,shE,UO,q59,EN,seval];refine bK (fun hb=>?_) (fun hb=>?_)
  ·have hb':decide (x.ai<z)=false:=by simpa using hb
   simp only[FF,hb',hlt2,hga,hput,tkE,shE,ade,hw,hw1,af,EN,seval];exact h1
  ·have hb':decide (x.ai<z)=true:=by simpa using hb
   simp only[FF,hb',hw,EN,seval];exact h2
def yM:ew:=⟨[],0,0⟩
def Eh(z:Int):∀(l:List ew)(i:Nat),Ag z l i = -1->je z l=l
 | [],_,_=>rfl
 |x::l,i,h=>by
  rw[Ag] at h;split at h
  ·omega
  ·rename_i hx;rw[yv,ak hx,Eh z l _ h]
def Ei(z:Int):∀(l:List ew)(i:Nat),Ag z l i ≠ -1->∃A x T,l=A++x::T/\Ag z l i=((i+A.length:Nat):Int)/\je z l=A++je z T
 | [],_,h=>absurd rfl h
 |x::l,i,h=>by
  rw[Ag] at h ⊢;rw[yv];split
  ·rename_i hx; exact⟨[],x,l,rfl,rfl,rfl⟩
  ·rename_i hx;rw[ak hx] at h;obtain⟨A,y,T,h1,h2,h3⟩:=Ei z l (i+1) h;exact⟨x::A,y,T,by rw[h1]; rfl,by rw[h2]; simp; omega,by rw[h3]; rfl⟩
def Gv(m:Nat):ag:=if m=0 then .slice .sh [] else .dg 0 0 3 0 m
def M5(A G:List ew):((A++G).map gh).take A.length++(List.replicate G.length (ag.agg [.str [],.int .i64 0,.int .i64 0])++((A++G).map gh).drop (A++G).length)=(A++List.replicate G.length yM).map gh:=by
 have h1:((A++G).map gh).take A.length=A.map gh:=by simp[gq]
 have h2:((A++G).map gh).drop (A++G).length=[]:=by rw[List.drop_eq_nil_iff]; simp
 rw[h1,h2];simp[List.map_replicate];exact .inr rfl
def afB(xs:List ew)(z:Int)(hn:xs.length<=100000)(h0:xs≠[]):aq cY 217 [.dg 0 0 3 0 xs.length,.func 219 [.ptr 1 0]] [.arr 3 0 (xs.map gh),.cells [.int .i64 z]] =
  some (Gv (je z xs).length,[.arr 3 0 ((je z xs++List.replicate (xs.length-(je z xs).length) yM).map gh),.cells [.int .i64 z]]):=by
 have q89:=alz xs z hn;refine aI ?_
 by_cases hi:Ag z xs 0 = -1
 ·have hk:=Eh z xs 0 hi;have hb:(Ag z xs 0 == -1)=true:=by simpa using hi
  have hl:xs.length≠0:=fun hh=>h0 (cq.1 hh)
  rw[hk];simp only[LD,FF,q89,hb,EN,seval];simp[Gv,hl]
 ·obtain⟨A,x,T,h1,h2,h3⟩:=Ei z xs 0 hi;have hb:(Ag z xs 0 == -1)=false:=by simpa using hi
  simp only[aP] at h2;have eU:xs.length=A.length+(T.length+1):=by rw[h1]; simp
  have hw:IntKind.i64.wrap ((A.length:Int)+1)=((A.length+[x].length:Nat):Int):=by rw[gx (by omega) (by omega)]; simp
  have hlp:=fun k R hx=>Ww (z:=z) hn (k:=k) (R:=R) hx T A [x] (by simp; omega) (by simp)
  have e1:A++[x]++T=xs:=by rw[h1]; simp
  rw[e1] at hlp;rw[h2] at hb q89;rw[h3];simp only[LD,FF,q89,hb,hw,EN,seval];refine(hlp _ (fun A' g=>some (Gv A'.length,[.arr 3 0 ((A'++List.replicate g yM).map gh),.cells [.int .i64 z]])) (fun A' G v q hl hg=>?_)).trans (by simp only[aJ])
  have hgl:G.length≠0:=fun hh=>hg (cq.1 hh)
  have b1:(((A'.length:Nat):Int)<=(xs.length:Int))=True:=Az;have b2:(((A'.length:Nat):Int)==(xs.length:Int))=false:=by simp; omega
  have hcl:=M5 A' G;have hN:(A'++G).length=xs.length:=by simp; omega
  have hd:xs.length-A'.length=G.length:=by omega
  rw[hN] at hcl;have hz0:Int.toNat ((0:Nat):Int)=0:=rfl;have hb0:((0:Int)<=((A'.length:Nat):Int))=True:=by simp
  by_cases hA:A'.length=0
  ·have b3:((0:Int)==((A'.length:Nat):Int))=true:=by simp[hA]
   simp only[FF,jc,bU,fG,b1,b2,hd,hcl,b3,hz0,hb0,EN,seval];simp[Gv,hA]
  ·have b3:((0:Int)==((A'.length:Nat):Int))=false:=by simp; omega
   simp only[FF,jc,bU,fG,b1,b2,hd,hcl,b3,hz0,hb0,EN,seval];simp[Gv,hA]
end
end Go.Proofs.YtcbopkblmebjiaaGreatDoor
namespace Go.Abs
open Go
def pj{C:eL}{fn:List sr}{bM:Nat}{k:List K}{live:List Nat}{body:cv}{α σ ρ:Type}{xs:List α}(hn:xs.length<=1000000)(go:List α->σ->ρ)(E:σ->Int->Env)(M:σ->aK)(R:ρ->Option (ag×aK))
  (hend:∀s,fP C fn bM (.loop live (M s).length body::k) body (jr (E s xs.length) live) (M s)=R (go [] s))
  (hstep:∀(pre:List α)(x:α)(post:List α)(s:σ),xs=pre++x::post->xs[pre.length]?=some x->((pre.length:Int)<xs.length)=True->IntKind.i64.wrap ((pre.length:Int)+1)=(pre.length:Int)+1->((pre.length:Int)<0)=False->x∈xs ->
   (∀s',fP C fn bM k (.loop live body) (E s' ((pre.length:Int)+1)) (M s')=R (go post s'))->fP C fn bM (.loop live (M s).length body::k) body (jr (E s pre.length) live) (M s)=R (go (x::post) s)) :
  ∀s,fP C fn bM k (.loop live body) (E s 0) (M s)=R (go xs s):=by
 have key:∀(l pre:List α)(s:σ),xs=pre++l->fP C fn bM k (.loop live body) (E s pre.length) (M s)=R (go l s):=by
  intro l;induction l with
  |nil =>
   intro pre s h;rw[bX,show pre.length=xs.length by rw[h]; simp]
   exact hend s
  |cons x r ih =>
   intro pre s h;rw[bX];have hl:pre.length+1<=1000000:=by rw[h] at hn; simp at hn; omega
   refine hstep pre x r s h (by rw[h]; simp) (by rw[h]; simp; omega) (gx (by omega) (by omega)) (by simp) (by rw[h]; simp) fun s'=>?_
   have:=ih (pre++[x]) s' (by rw[h]; simp)
   simpa using this
 intro s;exact key xs [] s rfl
def J1{C:eL}{fn:List sr}{bM:Nat}{k:List K}{live:List Nat}{body:cv}{α σ:Type}{xs:List α}(hn:xs.length<=1000000)(I:Nat->σ->Prop)(E:σ->Int->Env)(M:σ->aK)(Q:ag×aK->Prop)
  (hend:∀s,I xs.length s->∃r,Q r/\fP C fn bM (.loop live (M s).length body::k) body (jr (E s xs.length) live) (M s)=some r)
  (hstep:∀(pre:List α)(x:α)(post:List α)(s:σ),xs=pre++x::post->xs[pre.length]?=some x->((pre.length:Int)<xs.length)=True->IntKind.i64.wrap ((pre.length:Int)+1)=(pre.length:Int)+1->((pre.length:Int)<0)=False->x∈xs->I pre.length s ->
   (∀s',I (pre.length+1) s'->∃r,Q r/\fP C fn bM k (.loop live body) (E s' ((pre.length:Int)+1)) (M s')=some r)->∃r,Q r/\fP C fn bM (.loop live (M s).length body::k) body (jr (E s pre.length) live) (M s)=some r) :
  ∀s,I 0 s->∃r,Q r/\fP C fn bM k (.loop live body) (E s 0) (M s)=some r:=by
 have key:∀(l pre:List α)(s:σ),xs=pre++l->I pre.length s->∃r,Q r/\fP C fn bM k (.loop live body) (E s pre.length) (M s)=some r:=by
  intro l;induction l with
  |nil =>
   intro pre s h hI;have e:pre.length=xs.length:=by rw[h]; simp
   rw[bX,e];exact hend s (by rw[<-e]; exact hI)
  |cons x r ih =>
   intro pre s h hI;rw[bX];have hl:pre.length+1<=1000000:=by rw[h] at hn; simp at hn; omega
   refine hstep pre x r s h (by rw[h]; simp) (by rw[h]; simp; omega) (gx (by omega) (by omega)) (by simp) (by rw[h]; simp) hI fun s' hI'=>?_
   have:=ih (pre++[x]) s' (by rw[h]; simp) (by simpa using hI')
   simpa using this
 intro s hI;exact key xs [] s rfl hI
def Fg{α:Type}{a b:List α}{m:Nat}(h:a.take m=b.take m){x:α}(hx:a[m]?=some x)(hy:b[m]?=some x):a.take (m+1)=b.take (m+1):=by
 rw[dz,dz,h,hx,hy]
def II{α:Type}{a b:List α}(hl:a.length=b.length)(h:a.take a.length=b.take a.length):a=b:=by
 rw[cQ,hl,cQ] at h; exact h
end Go.Abs
namespace Go.Proofs.YtcbopkblmebjiaaGreatDoor
open Go Go.Abs
def mV:OQ:=⟨0,0,0,0,0,[],[]⟩
def k6(t:Tree)(aR:Bytes):Int×Bytes×Int :=
 if (fy aR).2.2 != 0 then (0,[],(fy aR).2.2)
 else if (eB t (fy aR).2.1).2 != 0 then (0,[],(eB t (fy aR).2.1).2)
 else ((eB t (fy aR).2.1).1,(fy aR).1,0)
def T7(n:Node):Int:=if (n.data.length:Int)<(n.aM.length:Int) then (n.aM.length:Int) else (n.data.length:Int)
def vS(x:ew):List ew->List ew
 | []=>[x]
 |y::r=>if x.ai<y.ai then x::y::r else y::vS x r
def mO:List ew->List ew
 | []=>[]
 |x::r=>vS x (mO r)
def Bb(ae:List Node)(au z:Int):List ew:=mO (je z (gw ae au).1.aM)
def pZ(t:Tree)(au z m:Int):List ew×Int×Int :=
 if decide (z<0)||(decide (m<1)||decide (64<m)) then ([],0,1)
 else if (gw t.ae au).2 != 0 then ([],0,(gw t.ae au).2)
 else if decide (((Bb t.ae au z).length:Int)<=m) then (Bb t.ae au z,0,0)
 else ((Bb t.ae au z).take m.toNat,mG (((Bb t.ae au z).getD (m.toNat-1) yM).ai+1),0)
def isF(ae:List Node)(i:Int):Prop:=∃n,find ae i=some n/\n.kind=1
def Zr(ae:List Node):Prop:=nI ae/\¬isF ae 0
def Rt.zr{t:Tree}(h:Rt t):Zr t.ae:=by
 obtain⟨cf,g⟩:=h;exact⟨g.jB.ju,fun⟨n,h1,_⟩=>by have:=(g.num _ _ h1).1; omega⟩
def ZW{ae:List Node}(h:nI ae){a b:Nat}{x y:Node}(hx:ae[a]?=some x)(hy:ae[b]?=some y)(e:x.au=y.au):a=b:=by
 obtain⟨ha,rfl⟩:=aC.1 hx;obtain⟨hb,rfl⟩:=aC.1 hy;rcases iy a b with h1|h1|h1
 ·have:=bT.1 h _ _ ha hb h1; omega
 ·exact h1
 ·have:=bT.1 h _ _ hb ha h1; omega
def wc:Bytes->Bytes->List Bytes->Option (List Bytes)
 | [],cur,out=>if !dB cur||(out.length:Int)==12 then none else some (out++[cur])
 |b::r,cur,out=>if (b.toNat:Int) != 47 then wc r (cur++[b]) out else if !dB cur||(out.length:Int)==12 then none else wc r [] (out++[cur])
def jy(s:Bytes):List Bytes×Int:=if s==[47] then ([],0) else match s with
 | []=>([],60)
 |b::r=>if (b.toNat:Int) != 47 then ([],60) else match wc r [] [] with
  |none=>([],60)
  |some l=>(l,0)
section
def yu(l:List Bytes)(s:Bytes):Bytes:=l.foldl (fun s x=>s++[47]++x) s
def Er(l:List Bytes):Bytes:=if (l.length:Int)==0 then [47] else yu l []
def Xf:∀(rest cur:Bytes)(out l:List Bytes),wc rest cur out=some l->(∀x,x∈out->dB x=true)->out.length<=12->(∀x,x∈l->dB x=true)/\l.length<=12:=by
 have key:∀(cur:Bytes)(out:List Bytes),¬(!dB cur||(out.length:Int)==12)=true->(∀x,x∈out->dB x=true)->out.length<=12->(∀x,x∈out++[cur]->dB x=true)/\(out++[cur]).length<=12:=by
  intro cur out h1 h2 h3;simp only[cJ,gS,dM,kH,kq] at h1;refine⟨fun x hx=>?_,by simp; omega⟩
  rcases bS.1 hx with hx|hx
  ·exact h2 x hx
  ·rw[eO.1 hx]; exact h1.1
 intro rest;induction rest with
 |nil =>
  intro cur out l h h1 h2;rw[wc] at h;split at h
  ·cases h
  ·rename_i hc;cases h;exact key cur out hc h1 h2
 |cons b r ih =>
  intro cur out l h h1 h2;rw[wc] at h;split at h
  ·exact ih _ _ _ h h1 h2
  split at h
  ·cases h
  ·rename_i hc;obtain⟨k1,k2⟩:=key cur out hc h1 h2;exact ih _ _ _ h k1 k2
def AN(s:Bytes):(∀x,x∈(jy s).1->dB x=true)/\(jy s).1.length<=12:=by
 unfold jy;split
 ·simp
 split
 ·simp
 split
 ·simp
 split
 ·simp
 ·rename_i h;exact Xf _ _ _ _ h (by simp) (by simp)
def vI(ae:List Node):List Bytes->Int->Int×Int
 | [],a=>(a,0)
 |x::r,a=>if (dR ae a x).2 != 0 then (0,(dR ae a x).2) else vI ae r (dR ae a x).1
def sq(ae:List Node)(s:Bytes):Int×Int:=if (jy s).2 != 0 then (0,(jy s).2) else vI ae (jy s).1 1
end
def kL(l:List Bytes):Bytes:=l.flatMap fun s=>47::s
def jP(l:List Bytes):Bytes:=if l=[] then [47] else kL l
def kU(s:Bytes)(r:List Bytes):kL (s::r)=47::(s++kL r):=by simp[kL]
def NoS(s:Bytes):Prop:=∀b,b∈s->b≠47
def Av{s:Bytes}(h:dB s=true):NoS s:=by
 intro b hb e;simp only[dB,bm,bu] at h;have:=h.2 b hb;rw[e] at this
 revert this; decide
def EJ{s:Bytes}(h:dB s=true):s≠[]:=by
 rintro rfl; revert h; decide
def CO(r:List Bytes):∀(s:Bytes),NoS s->Lib.indexByte (s++kL r) 47=if r=[] then -1 else (s.length:Int)
 | [],_=>by cases r<;>simp[kL,Lib.indexByte]
 |b::s,h=>by
  have hb:(b==47)=false:=by simpa using h b aD
  rw[aW,Lib.indexByte,CO r s fun x hx=>h x (aO _ hx),hb]
  by_cases hr:r=[]
  ·simp[hr]
  ·have:((s.length:Int) == -1)=false:=by simp
   simp[hr,this]
def D5(r:List Bytes){s:Bytes}(h:NoS s):DF (s++kL r)=s.length:=by
 unfold DF;rw[CO r s h]
 by_cases hr:r=[]
 ·simp[hr,kL]
 ·have:¬((s.length:Int)<0):=by omega
  simp[hr,this]
def Bm:∀(l:List Bytes),(∀s,s∈l->NoS s)->km (kL l)=l.map fun s=>(s,true)
 | [],_=>rfl
 |s::r,h=>by
  have hs:=h s aD;have hne:kL (s::r)≠[]:=by rw[kU]; simp
  have hc:qW (kL (s::r))=(s++kL r,true):=by rw[kU]; simp[qW]
  have h1:ri (kL (s::r))=(s,true):=by simp[ri,hc,D5 r hs]
  have h2:qw (kL (s::r))=kL r:=by simp[qw,hc,D5 r hs]
  rw[sW hne,h1,h2,Bm r (fun s hs=>h s (aO _ hs))]
  rfl
def Dt:∀(l:List Bytes)(n:Nat),(∀s,s∈l->dB s=true)->n+l.length<=12->nD (l.map fun s=>(s,true)) n=some l
 | [],_,_,_=>rfl
 |s::r,n,h,hl=>by
  have hb:zL (s,true) n=false:=by
   simp only[av] at hl;simp[zL,h s aD]; omega
  simp only[aV,nD,hb,af,aw];rw[Dt r (n+1) (fun s hs=>h s (aO _ hs)) (by simp only[av] at hl; omega)]
  rfl
def Qv{s:Bytes}{r:List Bytes}(h:dB s=true):jP (s::r)≠[47]:=by
 have:=EJ h;rw[jP,ak (by simp),kU]
 simp[this]
def kb{l:List Bytes}(h:∀s,s∈l->dB s=true)(hl:l.length<=12):bw (jP l)=(l,0):=by
 cases l with
 |nil=>rfl
 |cons s r =>
  have h1:=Qv (r:=r) (h s aD);have h2:jP (s::r)=kL (s::r):=by simp[jP]
  unfold bw;rw[ak h1,h2,Bm _ (fun s hs=>Av (h s hs)),Dt _ 0 h (by omega)]
def KX:∀(n:Nat)(s:Bytes)(m:Nat)(l:List Bytes),s.length<=n->nD (km s) m=some l->s=kL l:=by
 intro n;induction n with
 |zero =>
  intro s m l hs h;have:s=[]:=cm (by omega)
  subst this;simp[km,sV,nD] at h;subst h; rfl
 |succ n ih =>
  intro s m l hs h
  by_cases hn:s=[]
  ·subst hn;simp[km,sV,nD] at h;subst h; rfl
  ·rw[sW hn,nD] at h;split at h
   ·cases h
   ·rename_i hb;obtain⟨l',h1,rfl⟩:=aN.1 h;have cr:=zt hn;have hr:=ih _ _ _ (by omega) h1
    simp only[zL,cJ,kH,gS,kq] at hb;have h2:(qW s).2=true:=hb.1.1;cases s with
    |nil=>exact absurd rfl hn
    |cons b r =>
     have hc:b=47/\qW (b::r)=(r,true):=by
      by_cases e:b=47
      ·exact⟨e,by simp[qW,e]⟩
      ·simp[qW,e] at h2
     obtain⟨rfl,hc⟩:=hc;rw[kU,<-hr];simp[ri,qw,hc]
def uT{s:Bytes}{l:List Bytes}(h:bw s=(l,0)):s=jP l:=by
 unfold bw at h;split at h
 ·rename_i e;injection h with h _
  subst h; exact e
 ·split at h
  ·cases h
  ·cases h
  ·rename_i l' hne hg;injection h with h _
   subst h;have:=KX s.length s 0 _ (ar _) hg;rw[jP,ak hne];exact this
def Dr:∀(s rest cur:Bytes)(out:List Bytes),NoS s->wc (s++rest) cur out=wc rest (cur++s) out
 | [],rest,cur,out,_=>by simp
 |b::s,rest,cur,out,h=>by
  have hb:((b.toNat:Int) != 47)=true:=by
   have:=h b aD;simp only[gd,ne_eq];intro e;exact this (iA.1 (by rw[show((47:UInt8).toNat)=47 from rfl]; omega))
  rw[aW,wc,az hb,Dr s rest _ out fun x hx=>h x (aO _ hx)]
  simp
def Fa:∀(r:List Bytes)(cur:Bytes)(out:List Bytes),dB cur=true->(∀s,s∈r->dB s=true)->out.length+1+r.length<=12->wc (kL r) cur out=some (out++cur::r)
 | [],cur,out,hc,_,hl=>by
  have:((out.length:Int)==12)=false:=by simp at hl ⊢; omega
  simp[kL,wc,hc,this]
 |s::r,cur,out,hc,h,hl=>by
  have h1:((out.length:Int)==12)=false:=by simp at hl ⊢; omega
  have h2:((((47:UInt8).toNat:Int)) != 47)=false:=rfl;rw[kU,wc,h2];simp only[hc,h1,cU,dE,af,aw];rw[Dr s _ _ _ (Av (h s aD)),aX,Fa r s _ (h s aD) (fun x hx=>h x (aO _ hx)) (by simp at hl ⊢; omega)]
  simp
def Ox{l:List Bytes}(h:∀s,s∈l->dB s=true)(hl:l.length<=12):jy (jP l)=(l,0):=by
 cases l with
 |nil=>rfl
 |cons s r =>
  have h1:(jP (s::r)==[47])=false:=by simpa using Qv (r:=r) (h s aD)
  have h2:jP (s::r)=47::(s++kL r):=by simp[jP,kU]
  have h3:((((47:UInt8).toNat:Int)) != 47)=false:=rfl;unfold jy;rw[h1,h2];simp only[h3,af,aw];rw[Dr s _ _ _ (Av (h s aD)),aX,Fa r s [] (h s aD) (fun x hx=>h x (aO _ hx)) (by simp at hl ⊢; omega)]
  rfl
def Bi:∀(l:List Bytes)(s:Bytes),yu l s=s++kL l
 | [],s=>by simp[yu,kL]
 |x::l,s=>by
  have:=Bi l (s++[47]++x);simp only[yu,bA] at this ⊢;rw[this,kU]; simp
def CR(l:List Bytes):Er l=jP l:=by
 unfold Er jP;cases l with
 |nil=>rfl
 |cons s r=>rw[ak (by simp; omega),ak (by simp),Bi]; rfl
def ra(l:List Bytes):pq l=jP l:=by
 unfold pq jP;cases l with
 |nil=>rfl
 |cons s r =>
  rw[ak (by simp; omega),ak (by simp),Lib.join_cons,kU]
  simp[Lib.joinTail,kL,List.flatMap]
def Ub{s:Bytes}{l:List Bytes}(h:bw s=(l,0)):jy s=(l,0):=by
 obtain⟨o1,o2⟩:=lx s;rw[h] at o1 o2;rw[uT h,Ox o1 o2]
def HU{s:Bytes}(h:((fy s).2.2 != 0)=false):∃P x,bw s=(P++[x],0)/\fy s=(x,jP P,0):=by
 unfold fy at h ⊢;split at h
 ·cases h
 ·rename_i hc;rw[ak hc];simp only[cJ,kH,Bool.not_eq_true] at hc;generalize hS:bw s=S at hc;obtain⟨l,e⟩:=S;have he:e=0:=by simpa using hc.1
  rcases eF l with rfl|⟨P,x,rfl⟩
  ·simp at hc
  ·rw[eZ] at *;refine⟨P,x,by rw[he],?_⟩
   simp[ra]
def tu{t:Tree}{s:Bytes}{j:Int}:eB t s=(j,0)↔∃l,bw s=(l,0)/\pP t.ae l 1=(j,0):=by
 unfold eB;constructor
 ·intro h;split at h
  ·rename_i hc;injection h with _ h
   rw[h] at hc; cases hc
  ·rename_i hc;exact⟨_,fC rfl (by simpa using hc),h⟩
 ·rintro⟨l,h1,h2⟩;rw[h1];simpa using h2
def vh{t:Tree}{s:Bytes}(h:((k6 t s).2.2 != 0)=false):∃P x d,bw s=(P++[x],0)/\pP t.ae P 1=(d,0)/\k6 t s=(d,x,0):=by
 unfold k6 at h ⊢;split at h
 ·rename_i hc; simp only at h; rw[h] at hc; cases hc
 ·rename_i hc;obtain⟨P,x,h1,h2⟩:=HU (by simpa using hc)
  rw[h2] at h ⊢;simp only[an,af,aw] at h ⊢;split at h
  ·rename_i hw; simp only at h; rw[h] at hw; cases hw
  ·rename_i hw;obtain⟨l,g1,g2⟩:=tu.1 (fC rfl (by simpa using hw):eB t (jP P)=((eB t (jP P)).1,0))
   obtain⟨o1,o2⟩:=lx s;rw[h1] at o1 o2;rw[kb (fun y hy=>o1 y (eN _ hy)) (by simp at o2; omega)] at g1
   injection g1 with g1 _
   subst g1;exact⟨P,x,_,h1,g2,by rw[ak hw]⟩
def z7{t:Tree}(h:Rt t)(k i:Int):find (oN t k).1.ae i=if i=k/\∃n,find t.ae k=some n/\jv n=true then none else find t.ae i:=by
 have hz:=h.zr;obtain⟨cf,g⟩:=h;unfold oN;cases hf:find t.ae k with
 |none=>simp
 |some n =>
  have hn:bD t.ae k=n:=by simp[bD,hf]
  have hl:=g.dj _ _ hf;simp only[c9,cU,af,aw,hn];rcases g.kind _ _ hf with hk|hk
  ·have h1:(n.kind==2)=false:=by simp[hk]
   simp only[h1,af,aw];split
   ·rename_i h2;have h2':0<n.dj:=by simpa using h2
    have:jv n=false:=by simp[jv,hk]; omega
    simp[this]
   ·rename_i h2;have h2':¬0<n.dj:=by simpa using h2
    have h3:0<=n.dj:=by rw[hl]; split<;>omega
    have:jv n=true:=by simp[jv,hk]; omega
    rw[rU hz.1];simp[this]
  ·have h1:(n.kind==2)=true:=by simp[hk]
   have:jv n=false:=by simp[jv,hk]
   simp[h1,this]
def L2{ae:List Node}{dir:Int}{s:Bytes}{d:Node}(hd:find ae dir=some d)(hk:d.kind=2)(hs:dB s=true):dR ae dir s=match dX d.aM s with
  |none=>(0,70)
  |some e=>(e.au,0):=by
 have:gw ae dir=(d,0):=by simp[gw,hd,hk]
 simp only[dR,this,hs];cases dX d.aM s<;>simp
def Y9(t:Tree)(f:Int)(s:Bytes)(to:Int)(nm:Bytes)(y:Int):List Node:=if y != 0 then gi (dr (dr t.ae f s) to nm) y else dr t.ae f s
def H7(o:Option Node):Option Node:=match o with
 |some y=>xU y
 |none=>none
def WJ{t:Tree}{cf:Int->Nat}(h:cn t cf 0)(f:Int)(s:Bytes)(to:Int)(nm:Bytes)(y:Int):nI (Y9 t f s to nm y):=by
 unfold Y9;split
 ·exact vG (ll (ll h.jB.ju f s) to nm) y
 ·exact ll h.jB.ju f s
def PY{t:Tree}{cf:Int->Nat}(h:cn t cf 0){f:Int}{s:Bytes}{to:Int}{nm:Bytes}{dF dT m:Node}{e:ew}(k:vY t cf f s to nm dF dT m e)(i:Int) :
  find (Y9 t f s to nm (dY dT.aM nm)) i=if i=to then some { dT with aM:=fE (if to=f then fE dT.aM s else dT.aM) nm }
   else if i=f then some { dF with aM:=fE dF.aM s } else if i=dY dT.aM nm then H7 (find t.ae i) else find t.ae i:=by
 have f1:=iT h.jB.ju k.hF (s:=s);cases hfr:dX dT.aM nm with
 |none =>
  have hu:dY dT.aM nm=0:=by simp[dY,hfr]
  have hdr:fE (if to=f then fE dT.aM s else dT.aM) nm=(if to=f then fE dT.aM s else dT.aM):=by
   refine Cr ?_;split
   ·exact rK hfr
   ·exact hfr
  rw[hu,hdr];simp only[Y9,an,af,↓reduceIte];rw[f1]
  by_cases i1:i=to
  ·rw[az i1];subst i1
   by_cases i2:i=f
   ·subst i2;have:=k.hF; rw[k.hT] at this; cases this;simp only[↓reduceIte]
   ·simp only[i2,↓reduceIte]; exact k.hT
  ·rw[ak i1]
   by_cases i2:i=f
   ·simp only[i2,↓reduceIte]
   ·simp only[i2,↓reduceIte]
    by_cases i3:i=0
    ·subst i3; simp[h.zero,H7]
    ·simp only[i3,↓reduceIte]
 |some e2 =>
  have hu:dY dT.aM nm=e2.au:=by simp[dY,hfr]
  obtain⟨q1,y,q2,q3,q4,q5,q6⟩:=k.KD e2 hfr;have hy0:=(h.num _ _ q2).1;have hb:(e2.au != 0)=true:=by simp; omega
  rw[hu];simp only[Y9,hb,↓reduceIte];have a1:=ll h.jB.ju f s
  obtain⟨dT',hT',hd'⟩:∃dT',find (dr t.ae f s) to=some dT'/\({ dT' with aM:=fE dT'.aM nm }:Node)={ dT with aM:=fE (if to=f then fE dT.aM s else dT.aM) nm }:=by
   rw[f1];split
   ·rename_i hh;subst hh;have:=k.hF; rw[k.hT] at this; cases this;exact⟨_,rfl,rfl⟩
   ·exact⟨dT,k.hT,rfl⟩
  have f3:=iT a1 hT' (s:=nm);have hy3:find (dr (dr t.ae f s) to nm) e2.au=some y:=by rw[f3,ak q6,f1,ak q5]; exact q2
  rw[pT (ll a1 to nm) hy3,f3,f1,hd']
  by_cases i1:i=e2.au
  ·subst i1;simp only[↓reduceIte,q5,q6,q2,H7]
  ·simp only[i1,↓reduceIte]
def yp{t:Tree}{cf:Int->Nat}(h:cn t cf 0){f:Int}{s:Bytes}{to:Int}{nm:Bytes}{dF dT m:Node}{e:ew}(k:vY t cf f s to nm dF dT m e)(i:Int) :
  find (nU t f s to nm e.au (dY dT.aM nm)).ae i=if i=to then some { dT with aM:=sQ (fE (if to=f then fE dT.aM s else dT.aM) nm) ⟨nm,e.au,t.ai⟩ }
   else if i=f then some { dF with aM:=fE dF.aM s } else if i=e.au then some (if m.kind=2 then { m with up:=to } else m) else if i=dY dT.aM nm then H7 (find t.ae i) else find t.ae i:=by
 have hA:=PY h k;have aA:=WJ h f s to nm (dY dT.aM nm);have hmn:bD t.ae e.au=m:=by simp[bD,k.hm]
 have hmi:m.au=e.au:=(cg k.hm).2;have hTi:dT.au=to:=(cg k.hT).2
 have hux:e.au≠dY dT.aM nm:=by
  cases hfr:dX dT.aM nm with
  |none=>simp only[dY,hfr]; have:=(h.num _ _ k.hm).1; omega
  |some e2=>simp only[dY,hfr]; exact fun hh=>(k.KD e2 hfr).1 hh.symm
 obtain⟨B,hB,aB,fB⟩:∃B,(if m.kind==2 then eI (Y9 t f s to nm (dY dT.aM nm)) { m with up:=to } else Y9 t f s to nm (dY dT.aM nm))=B/\nI B /\
   ∀i,find B i=if i=to then some { dT with aM:=fE (if to=f then fE dT.aM s else dT.aM) nm }
    else if i=f then some { dF with aM:=fE dF.aM s } else if i=e.au then some (if m.kind=2 then { m with up:=to } else m) else if i=dY dT.aM nm then H7 (find t.ae i) else find t.ae i:=by
  refine⟨_,rfl,?_,?_⟩
  ·split
   ·exact nG aA _
   ·exact aA
  ·intro i;split
   ·rename_i hk;have hk':m.kind=2:=by simpa using hk
    rw[gJ aA,hA];simp only[hmi,hk',↓reduceIte]
    by_cases i1:i=e.au
    ·subst i1; simp only[↓reduceIte,k.ne,k.nf]
    ·simp only[i1,↓reduceIte]
   ·rename_i hk;have hk':¬m.kind=2:=by simpa using hk
    rw[hA];simp only[hk',↓reduceIte]
    by_cases i1:i=e.au
    ·subst i1; simp only[↓reduceIte,k.ne,k.nf,hux]; exact k.hm
    ·simp only[i1,↓reduceIte]
 have hmv:nU t f s to nm e.au (dY dT.aM nm)=gI ⟨B,t.next,t.ai⟩ to nm e.au:=by
  rw[<-hB];unfold nU Y9;simp only[hmn]
 rw[hmv];unfold gI;simp only;have hBt:find B to=some { dT with aM:=fE (if to=f then fE dT.aM s else dT.aM) nm }:=by rw[fB]; simp only[↓reduceIte]
 rw[gJ aB,hBt];simp only[bz,hTi]
 by_cases i1:i=to
 ·simp only[i1,↓reduceIte]
 ·simp only[i1,↓reduceIte];rw[fB];simp only[i1,↓reduceIte]
def ny{l:List ew}(h:oT l){s:Bytes}{e:ew}:dX l s=some e↔e∈l/\e.name=s:=by
 refine⟨eu,fun⟨h1,h2⟩=>?_⟩
 cases hf:dX l s with
 |none =>
  have:=eD.1 hf e h1;simp[h2] at this
 |some x =>
  obtain⟨x1,x2⟩:=eu hf;obtain⟨i,hi⟩:=bN h1;obtain⟨k,hk⟩:=bN x1;have hil:=(aC.1 hi).1;have hkl:=(aC.1 hk).1;have e1:l[i]=e:=by rw[aj hil] at hi; injection hi
  have e2:l[k]=x:=by rw[aj hkl] at hk; injection hk
  rcases iy i k with cr|heq|hgt
  ·have:=bT.1 h _ _ hil hkl cr;rw[e1,e2,h2,x2,ik] at this; cases this
  ·subst heq; rw[<-e1,<-e2]
  ·have:=bT.1 h _ _ hkl hil hgt;rw[e1,e2,h2,x2,ik] at this; cases this
def vx{l:List ew}(h:oT l){e:ew}(hf:dX l e.name=none)(s:Bytes):dX (sQ l e) s=if s=e.name then some e else dX l s:=by
 have ha:=HH h hf;split
 ·rename_i hs;exact(ny ha).2 ⟨(wN h hf).2 (.inl rfl),hs.symm⟩
 ·rename_i hs;cases hq:dX l s with
  |none =>
   cases hr:dX (sQ l e) s with
   |none=>rfl
   |some x =>
    obtain⟨x1,x2⟩:=eu hr;rcases(wN h hf).1 x1 with rfl|x1
    ·exact absurd x2.symm hs
    ·rw[(ny h).2 ⟨x1,x2⟩] at hq; cases hq
  |some x =>
   obtain⟨x1,x2⟩:=eu hq;exact(ny ha).2 ⟨(wN h hf).2 (.inr x1),x2⟩
section
variable {t:Tree} {cf:Int->Nat} {f:Int} {s:Bytes} {to:Int} {nm:Bytes} {dF dT m:Node} {e:ew}
def vY.bM(h:cn t cf 0)(k:vY t cf f s to nm dF dT m e):oT (fE (if to=f then fE dT.aM s else dT.aM) nm)/\dX (fE (if to=f then fE dT.aM s else dT.aM) nm) nm=none:=by
 have hE:oT dT.aM:=h.jB.aM dT (cg k.hT).1;refine⟨uL ?_ nm,wE _ _⟩;split
 ·exact uL hE s
 ·exact hE
def vY.L3(h:cn t cf 0)(k:vY t cf f s to nm dF dT m e):dR (nU t f s to nm e.au (dY dT.aM nm)).ae to nm=(e.au,0):=by
 have hf:=yp h k to;rw[az rfl] at hf;obtain⟨b1,b2⟩:=k.bM h;rw[L2 hf k.kT k.hn];simp only;rw[vx b1 (e:=⟨nm,e.au,t.ai⟩) b2];simp
end
def Way(ae:List Node):Int->List Bytes->Int->Prop
 |i,[],j=>i=j
 |i,s::r,j=>∃d e,find ae i=some d/\d.kind=2/\dB s=true/\dX d.aM s=some e/\Way ae e.au r j
def pI{ae:List Node}:∀ {L:List Bytes} {i j:Int},pP ae L i=(j,0)↔Way ae i L j
 | [],i,j=>by simp[pP,Way]
 |s::r,i,j=>by
  unfold pP Way;constructor
  ·intro h;split at h
   ·rename_i h0;injection h with _ h
    simp[h] at h0
   ·rename_i h0;obtain⟨d,e,h1,h2,h3,h4,h5⟩:=look_ok (by simpa using h0)
    rw[h5] at h;exact⟨d,e,h1,h2,h3,h4,pI.1 h⟩
  ·rintro⟨d,e,h1,h2,h3,h4,h5⟩;have hl:dR ae i s=(e.au,0):=by rw[L2 h1 h2 h3,h4]
   rw[hl];simpa using pI.2 h5
def ir{ae:List Node}:∀ {A B:List Bytes} {i j:Int},Way ae i (A++B) j↔∃k,Way ae i A k/\Way ae k B j
 | [],B,i,j=>by simp[Way]
 |s::A,B,i,j=>by
  simp only[aW,Way];constructor
  ·rintro⟨d,e,h1,h2,h3,h4,h5⟩;obtain⟨k,k1,k2⟩:=ir.1 h5;exact⟨k,⟨d,e,h1,h2,h3,h4,k1⟩,k2⟩
  ·rintro⟨k,⟨d,e,h1,h2,h3,h4,k1⟩,k2⟩;exact⟨d,e,h1,h2,h3,h4,ir.2 ⟨k,k1,k2⟩⟩
def xF{ae:List Node}{L:List Bytes}{i j k:Int}(h:Way ae i L j)(g:Way ae i L k):j=k:=by
 rw[<-pI] at h g;rw[h] at g; injection g
section
variable {t:Tree} {cf:Int->Nat}
def cn.step(h:cn t cf 0){i:Int}{d:Node}{e:ew}{s:Bytes}(hd:find t.ae i=some d)(he:dX d.aM s=some e):∃m,find t.ae e.au=some m/\(m.kind=2->m.up=i/\e.au≠1/\cf e.au=cf i+1)/\jv m=false:=by
 obtain⟨e1,_⟩:=eu he;obtain⟨_,_,h1,_,m,hm,hu⟩:=h.wB _ _ e hd e1;refine⟨m,hm,fun hk=>⟨hu hk,h1,?_⟩,?_⟩
 ·have:=(h.sy _ _ hm hk h1).1;rw[hu hk] at this; exact this
 ·have hl:=h.dj _ _ hm;have:0<qN t.ae e.au:=qV.2 ⟨d,e,(cg hd).1,e1,rfl⟩;have h2:((m.dj==0)=false):=by simp; split at hl<;>omega
  simp[jv,h2]
def cn.td(h:cn t cf 0):∀ {L:List Bytes} {i j:Int} {d n:Node},Way t.ae i L j->find t.ae i=some d->d.kind=2->find t.ae j=some n->n.kind=2->cf j=cf i+L.length
 | [],i,j,_,_,hw,_,_,_,_=>by cases hw; rfl
 |s::r,i,j,d,n,⟨d',e,h1,_,_,h4,h5⟩,_,_,hj,hk=>by
  obtain⟨m,hm,hu,_⟩:=h.step h1 h4
  have hmk:m.kind=2:=by
   cases r with
   |nil=>cases h5; rw[hm] at hj; injection hj with hj; rw[hj]; exact hk
   |cons s' r'=>obtain⟨d2,_,g1,g2,_⟩:=h5; rw[hm] at g1; injection g1 with g1; rw[g1]; exact g2
  have:=h.td h5 hm hmk hj hk;have:=(hu hmk).2.2;simp only[av]; omega
def cn.AX(h:cn t cf 0){x:Int}:∀ {L:List Bytes} {i j:Int} {n:Node},Way t.ae i L j->iR t.ae i x=true->find t.ae j=some n->n.kind=2->iR t.ae j x=true
 | [],i,j,_,hw,hb,_,_=>by cases hw; exact hb
 |s::r,i,j,n,⟨d,e,h1,h2,_,h4,h5⟩,hb,hj,hk=>by
  obtain⟨m,hm,hu,_⟩:=h.step h1 h4
  have hmk:m.kind=2:=by
   cases r with
   |nil=>cases h5; rw[hm] at hj; injection hj with hj; rw[hj]; exact hk
   |cons s' r'=>obtain⟨d2,_,g1,g2,_⟩:=h5; rw[hm] at g1; injection g1 with g1; rw[g1]; exact g2
  refine h.AX h5 ?_ hj hk;rcases Int.decEq e.au x with hx|hx
  ·rw[h.yU hm hmk (hu hmk).2.1 hx,(hu hmk).1]; exact hb
  ·rw[hx]; exact cn.rC (t:=t) x
def cn.MF(h:cn t cf 0){L:List Bytes}{i j:Int}{d:Node}(hw:Way t.ae i L j)(hi:find t.ae i=some d)(hd:jv d=false):∃m,find t.ae j=some m/\jv m=false:=by
 rcases eF L with rfl|⟨A,s,rfl⟩
 ·cases hw; exact⟨d,hi,hd⟩
 ·rw[eZ] at hw;obtain⟨k,_,d',e,h1,_,_,h4,h5⟩:=ir.1 hw;obtain⟨m,hm,_,ho⟩:=h.step h1 h4;cases h5;exact⟨m,hm,ho⟩
def yj{n:Node}(h:n.kind=2):jv n=false:=by simp[jv,h]
def cn.BX(h:cn t cf 0):∀(c:Nat){L L':List Bytes}{j:Int}{n:Node},L.length=c->Way t.ae 1 L j->Way t.ae 1 L' j->find t.ae j=some n->n.kind=2->L=L':=by
 obtain⟨r,r1,r2,_⟩:=h.root;intro c;induction c with
 |zero =>
  intro L L' j n hc w w' hj hk;have e1:=h.td w r1 r2 hj hk;have e2:=h.td w' r1 r2 hj hk;have:L'.length=0:=by omega
  rw[cm hc,cm this]
 |succ c ih =>
  intro L L' j n hc w w' hj hk;have e1:=h.td w r1 r2 hj hk;have e2:=h.td w' r1 r2 hj hk;rcases eF L with rfl|⟨A,s,rfl⟩
  ·simp at hc
  rcases eF L' with rfl|⟨A',s',rfl⟩
  ·simp at e1 e2 hc; omega
  rw[eZ] at *;obtain⟨k,w1,d,e,g1,g2,_,g4,g5⟩:=ir.1 w;obtain⟨k',w1',d',e',g1',g2',_,g4',g5'⟩:=ir.1 w';have g5:e.au=j:=g5;have g5':e'.au=j:=g5';obtain⟨m,hm,hu,_⟩:=h.step g1 g4;obtain⟨m',hm',hu',_⟩:=h.step g1' g4';rw[g5,hj] at hm; cases hm;rw[g5',hj] at hm'; cases hm';have hkk:k=k':=(hu hk).1.symm.trans (hu' hk).1;subst hkk;rw[g1] at g1'; cases g1';have hA:=ih (by simpa using hc) w1 w1' g1 g2
  obtain⟨m1,m2⟩:=eu g4;obtain⟨m3,m4⟩:=eu g4'
  suffices e=e' by rw[hA,<-m2,<-m4,this,eZ]
  -- one entry
  have hj1:j≠1:=g5▸(hu hk).2.1;have hl:=h.dj _ _ hj;rw[h.one _ _ hj hk hj1,ak (by have:=(h.num _ _ hj).1; omega)] at hl
  have hw:=y8 h.jB.ju k j;have hd:bD t.ae k=d:=by simp[bD,g1]
  rw[hd] at hw;have h1:mW d.aM j<=1:=by omega
  unfold mW at h1;obtain⟨x,hx⟩:=bN m1;obtain⟨y,hy⟩:=bN m3;obtain⟨B,C,hBC⟩:=List.append_of_mem m1;rw[hBC] at h1 m3;simp only[List.countP_append,List.countP_cons,g5,ei,aE] at h1;rcases bS.1 m3 with hm|hm
  ·have:0<B.countP (fun z=>z.au==j):=nZ.2 ⟨e',hm,by simp[g5']⟩
   omega
  ·rcases bb.1 hm with hm|hm
   ·exact hm.symm
   ·have:0<C.countP (fun z=>z.au==j):=nZ.2 ⟨e',hm,by simp[g5']⟩
    omega
def cn.pJ(h:cn t cf 0){L:List Bytes}{j:Int}(hw:Way t.ae 1 L j):L.length<=12:=by
 obtain⟨r,r1,r2,_⟩:=h.root;rcases eF L with rfl|⟨A,s,rfl⟩
 ·simp
 ·rw[eZ] at hw ⊢;obtain⟨k,w1,d,e,g1,g2,_,g4,_⟩:=ir.1 hw;have e1:=h.td w1 r1 r2 g1 g2;obtain⟨d1,d2⟩:=h.deep _ _ g1 g2
  have:cf k≠12:=fun hh=>by
   have:=(eu g4).1;rw[d2 hh] at this; cases this
  have:=h.y9;simp; omega
end
section
variable {t:Tree} {cf:Int->Nat} {f:Int} {s:Bytes} {to:Int} {nm:Bytes} {dF dT m:Node} {e:ew}
def vY.step(h:cn t cf 0)(k:vY t cf f s to nm dF dT m e){i:Int}{d:Node}{c:Bytes}{e':ew}(hd:find t.ae i=some d)(hk:d.kind=2)(he:dX d.aM c=some e')(h1:¬(i=f/\c=s))(h2:¬(i=to/\c=nm)):∃d',find (nU t f s to nm e.au (dY dT.aM nm)).ae i=some d'/\d'.kind=2/\dX d'.aM c=some e':=by
 rw[yp h k];obtain⟨b1,b2⟩:=k.bM h
 by_cases i1:i=to
 ·subst i1;rw[k.hT] at hd; cases hd;refine⟨_,az rfl,k.kT,?_⟩;have hc:c≠nm:=fun hh=>h2 ⟨rfl,hh⟩
  simp only;rw[vx b1 (e:=⟨nm,e.au,t.ai⟩) b2];simp only[hc,aw];rw[pk hc];split
  ·rename_i hif;have hcs:c≠s:=fun hh=>h1 ⟨hif,hh⟩
   rw[pk hcs]; exact he
  ·exact he
 rw[ak i1]
 by_cases i2:i=f
 ·subst i2;rw[k.hF] at hd; cases hd;have hcs:c≠s:=fun hh=>h1 ⟨rfl,hh⟩
  exact⟨_,az rfl,k.kF,by simp only; rw[pk hcs]; exact he⟩
 rw[ak i2]
 by_cases i3:i=e.au
 ·subst i3;rw[k.hm] at hd; cases hd;exact⟨_,az rfl,by simp[hk],by simp only[hk,aE]; exact he⟩
 rw[ak i3]
 by_cases i4:i=dY dT.aM nm
 ·exfalso;cases hfr:dX dT.aM nm with
  |none =>
   simp only[dY,hfr] at i4;have:=(h.num _ _ hd).1; omega
  |some e2 =>
   simp only[dY,hfr] at i4;obtain⟨_,y,y1,y2,_⟩:=k.KD e2 hfr;rw[i4,y1] at hd; cases hd;rw[y2] at he; cases he
 ·rw[ak i4];exact⟨d,hd,hk,he⟩
def vY.way(h:cn t cf 0)(k:vY t cf f s to nm dF dT m e):∀ {L:List Bytes} {i j:Int},Way t.ae i L j->(∀A c B i',L=A++c::B->Way t.ae i A i'->¬(i'=f/\c=s)/\¬(i'=to/\c=nm))->Way (nU t f s to nm e.au (dY dT.aM nm)).ae i L j
 | [],_,_,hw,_=>hw
 |c::r,i,j,⟨d,e',h1,h2,h3,h4,h5⟩,hno=>by
  obtain⟨n1,n2⟩:=hno [] c r i rfl rfl;obtain⟨d',g1,g2,g4⟩:=k.step h h1 h2 h4 n1 n2;refine⟨d',e',g1,g2,h3,g4,k.way h h5 fun A c' B i' hL hA=>hno (c::A) c' B i' (by rw[hL]; rfl) ⟨d,e',h1,h2,h3,h4,hA⟩⟩
def vY.Tb(k:vY t cf f s to nm dF dT m e){e2:ew}(he:dX dT.aM nm=some e2){B:List Bytes}{j:Int}(hw:Way t.ae e2.au B j):j=e2.au:=by
 cases B with
 |nil=>exact Eq.symm hw
 |cons b B =>
  obtain⟨d,e',h1,_,_,h4,_⟩:=hw;obtain⟨_,y,y1,y2,_⟩:=k.KD e2 he;rw[y1] at h1; cases h1;rw[y2] at h4; cases h4
def vY.ady(h:cn t cf 0)(k:vY t cf f s to nm dF dT m e){L:List Bytes}(hw:Way t.ae 1 L to):Way (nU t f s to nm e.au (dY dT.aM nm)).ae 1 L to:=by
 refine k.way h hw fun A c B i' hL hA=>⟨?_,?_⟩
 ·rintro⟨rfl,rfl⟩;rw[hL] at hw;obtain⟨k',w1,d,e2,g1,_,_,g4,g5⟩:=ir.1 hw;have:=xF hA w1; subst this;rw[k.hF] at g1; cases g1;rw[k.he] at g4; cases g4;cases B with
  |nil=>exact k.ne g5
  |cons b B =>
   have hmk:m.kind=2:=by
    obtain⟨d,_,q1,q2,_⟩:=g5;rw[k.hm] at q1; injection q1 with q1; rw[q1]; exact q2
   have:=h.AX g5 (cn.rC (t:=t) e.au) k.hT k.kT;rw[k.loop hmk] at this; cases this
 ·rintro⟨rfl,rfl⟩;rw[hL] at hw;obtain⟨k',w1,d,e2,g1,_,_,g4,g5⟩:=ir.1 hw;have:=xF hA w1; subst this;rw[k.hT] at g1; cases g1;obtain⟨_,y,_,_,_,_,y6⟩:=k.KD e2 g4;exact y6 (k.Tb g4 g5).symm
def vY.adx(h:cn t cf 0)(k:vY t cf f s to nm dF dT m e)(hm:m.kind=2){L:List Bytes}{z:Int}(hw:Way t.ae e.au L z):Way (nU t f s to nm e.au (dY dT.aM nm)).ae e.au L z/\z≠f/\z≠to/\z≠dY dT.aM nm:=by
 have hstep:=h.step k.hF k.he;obtain⟨m',hm',hu,_⟩:=hstep;rw[k.hm] at hm'; cases hm';obtain⟨_,hx1,hdx⟩:=hu hm
 have nf:∀ {A:List Bytes},¬Way t.ae e.au A f:=fun hA=>by
  have:=h.td hA k.hm hm k.hF k.kF;omega
 have nt:∀ {A:List Bytes},¬Way t.ae e.au A to:=fun hA=>by
  have:=h.AX hA (cn.rC (t:=t) e.au) k.hT k.kT;rw[k.loop hm] at this; cases this
 refine⟨k.way h hw fun A c B i' hL hA=>⟨?_,?_⟩,?_,?_,?_⟩
 ·rintro⟨rfl,_⟩; exact nf hA
 ·rintro⟨rfl,_⟩; exact nt hA
 ·rintro rfl; exact nf hw
 ·rintro rfl; exact nt hw
 ·intro hz;cases hfr:dX dT.aM nm with
  |none =>
   simp only[dY,hfr] at hz;obtain⟨n,hn,_⟩:=h.MF hw k.hm (yj hm);have:=(h.num _ _ hn).1; omega
  |some e2 =>
   simp only[dY,hfr] at hz;obtain⟨q1,y,y1,_,y3,_⟩:=k.KD e2 hfr;have yk:=y3.1 hm;rcases eF L with rfl|⟨A,c,rfl⟩
   ·exact q1 (hz.symm.trans (Eq.symm hw))
   ·rw[eZ] at hw;obtain⟨i',w1,d,e',g1,g2,_,g4,g5⟩:=ir.1 hw;have g5:e'.au=z:=g5;obtain⟨n,hn,hu2,_⟩:=h.step g1 g4;obtain⟨n',hn',hu3,_⟩:=h.step k.hT hfr;rw[g5,hz,y1] at hn; cases hn;rw[y1] at hn'; cases hn';have:i'=to:=(hu2 yk).1.symm.trans (hu3 yk).1;subst this;exact nt w1
end
section
variable {u t:Tree} {cf:Int->Nat}
end
structure Piece where
 aR:Bytes
 group:Int
 dJ:Int
 deriving DecidableEq,Inhabited
structure qu where
 group:Int
 ae:List Node
 deriving DecidableEq,Inhabited
structure vX where
 pieces:List Piece
 eh:List qu
 next:Int
 ai:Int
 deriving DecidableEq,Inhabited
def cL(p:Piece):List ag:=[.str p.aR,.int .i64 p.group,.int .i64 p.dJ]
def dn(p:Piece):ag := .agg (cL p)
abbrev bH(l:List Piece):ag := .slice .sh (l.map dn)
def ml(x:qu):List ag:=[.int .i64 x.group,aZ x.ae]
def Ct(x:qu):ag := .agg (ml x)
abbrev jQ(l:List qu):ag := .slice .sh (l.map Ct)
def bC(f:vX):List ag:=[bH f.pieces,jQ f.eh,.int .i64 f.next,.int .i64 f.ai]
def iZ(f:vX):ag := .agg (bC f)
def Aa(a b:List Bytes):kL (a++b)=kL a++kL b:=by simp[kL]
def Ds:∀(r cur:Bytes)(out l:List Bytes),wc r cur out=some l->kL l=kL out++(47::(cur++r))
 | [],cur,out,l,h=>by
  rw[wc] at h;split at h
  ·cases h
  ·cases h;rw[Aa,kU]; simp[kL]
 |b::r,cur,out,l,h=>by
  rw[wc] at h;split at h
  ·rw[Ds r _ _ _ h]; simp
  ·rename_i hb
   have hb:b=47:=by
    simp only[gd,ne_eq,ma] at hb;exact iA.1 (by rw[show((47:UInt8).toNat)=47 from rfl]; omega)
   subst hb;split at h
   ·cases h
   ·rw[Ds r _ _ _ h,Aa,kU]; simp[kL]
def KY{s:Bytes}{l:List Bytes}(h:jy s=(l,0)):s=jP l:=by
 unfold jy at h;split at h
 ·rename_i e;injection h with h _
  subst h; simpa[jP] using e
 ·split at h
  ·cases h
  ·rename_i b r _;split at h
   ·cases h
   ·rename_i hb
    have hb:b=47:=by
     simp only[gd,ne_eq,ma] at hb;exact iA.1 (by rw[show((47:UInt8).toNat)=47 from rfl]; omega)
    subst hb;split at h
    ·cases h
    ·rename_i l' hl;injection h with h _
     subst h;have:=Ds _ _ _ _ hl;simp only[kL,List.flatMap_nil,aX] at this;rw[jP,ak (by rintro rfl; simp at this)]
     exact this.symm
def KZ(s:Bytes):jy s=([],60)\/jy s=((jy s).1,0):=by
 unfold jy;split
 ·exact .inr rfl
 split
 ·exact .inl rfl
 split
 ·exact .inl rfl
 split
 ·exact .inl rfl
 ·exact .inr rfl
def vE(s:Bytes):bw s=([],60)\/bw s=((bw s).1,0):=by
 unfold bw;split
 ·exact .inr rfl
 split
 ·exact .inl rfl
 ·exact .inl rfl
 ·exact .inr rfl
def tZ(s:Bytes):jy s=bw s:=by
 rcases vE s with h|h
 ·rcases KZ s with g|g
  ·rw[h,g]
  ·obtain⟨o1,o2⟩:=AN s;have:=kb o1 o2;rw[<-KY g,h] at this;injection this with _ h2
   exact absurd h2 (by decide)
 ·rw[h]; exact Ub h
def Dz(ae:List Node):∀(L:List Bytes)(a:Int),vI ae L a=pP ae L a
 | [],_=>rfl
 |x::r,a=>by rw[vI,pP,Dz ae r]
def I1(t:Tree)(s:Bytes):sq t.ae s=eB t s:=by
 unfold sq eB;rw[tZ,Dz]
def jJ(a b:Bytes):Bool:=(bw a).2==0&&((bw b).2==0&&(bw a).1.isPrefixOf (bw b).1)
def mY{a b:Bytes}:jJ a b=true↔(bw a).2=0/\(bw b).2=0/\(bw a).1 <+: (bw b).1:=by
 simp[jJ,iU]
structure jS(l:List Piece):Prop where
 fst:∃p r,l=p::r/\p.aR=[47]
 many:l.length<=16
 ok:∀p,p∈l->(bw p.aR).2=0/\0<=p.group/\p.group<8/\1<=p.dJ/\p.dJ<=1099511627776
 ju:l.Pairwise fun a b=>strLt a.aR b.aR=true
abbrev vT(p:Piece):List Bytes:=(bw p.aR).1
def jS.join{l:List Piece}(h:jS l){p:Piece}(hp:p∈l):p.aR=jP (vT p):=by
 have:=(h.ok p hp).1;exact uT (fC rfl this)
def qk(s:Bytes):List Piece->Nat->Nat->Nat
 | [],_,b=>b
 |p::r,i,b=>qk s r (i+1) (if jJ p.aR s then i else b)
def df(l:List Piece)(s:Bytes):Nat:=qk s l 0 0
def wH(s:Bytes):∀(l:List Piece)(i b:Nat),(qk s l i b=b/\∀p,p∈l->jJ p.aR s=false) \/
  ∃j p,qk s l i b=i+j/\l[j]?=some p/\jJ p.aR s=true/\∀k q,l[k]?=some q->jJ q.aR s=true->k<=j
 | [],i,b => .inl ⟨rfl,by simp⟩
 |p::r,i,b=>by
  rw[qk]
  by_cases hp:jJ p.aR s=true
  ·rw[az hp];rcases wH s r (i+1) i with ⟨h1,h2⟩|⟨j,q,h1,h2,h3,h4⟩
   ·refine .inr ⟨0,p,by simpa using h1,rfl,hp,fun k q hk hq=>?_⟩
    cases k with
    |zero=>exact ar _
    |succ k =>
     have:=h2 q (aQ (by simpa using hk))
     rw[hq] at this; cases this
   ·refine .inr ⟨j+1,q,by omega,by simpa using h2,h3,fun k x hk hx=>?_⟩
    cases k with
    |zero=>omega
    |succ k=>have:=h4 k x (by simpa using hk) hx; omega
  ·rw[ak hp];have hp:jJ p.aR s=false:=by simpa using hp
   rcases wH s r (i+1) b with ⟨h1,h2⟩|⟨j,q,h1,h2,h3,h4⟩
   ·refine .inl ⟨h1,fun q hq=>?_⟩
    rcases bb.1 hq with rfl|hq
    ·exact hp
    ·exact h2 q hq
   ·refine .inr ⟨j+1,q,by omega,by simpa using h2,h3,fun k x hk hx=>?_⟩
    cases k with
    |zero=>omega
    |succ k=>have:=h4 k x (by simpa using hk) hx; omega
def B6{s:Bytes}(hs:(bw s).2=0):jJ [47] s=true:=by
 rw[mY];exact⟨rfl,hs,by simp[show(bw [47]).1=[] from rfl]⟩
def jS.home{l:List Piece}(h:jS l){s:Bytes}(hs:(bw s).2=0):∃p,l[df l s]?=some p/\jJ p.aR s=true/\∀k q,l[k]?=some q->jJ q.aR s=true->k<=df l s:=by
 rcases wH s l 0 0 with ⟨_,h2⟩|⟨j,p,h1,h2,h3,h4⟩
 ·obtain⟨p,r,rfl,hp⟩:=h.fst;have:=h2 p aD;rw[hp,B6 hs] at this; cases this
 ·rw[aP] at h1;unfold df;rw[h1];exact⟨p,h2,h3,h4⟩
def uO{l:List Piece}(h:jS l){s:Bytes}(hs:(bw s).2=0){j:Nat}{p:Piece}(hp:l[j]?=some p)(ha:jJ p.aR s=true)(hm:∀k q,l[k]?=some q->jJ q.aR s=true->k<=j):df l s=j:=by
 obtain⟨q,h1,h2,h3⟩:=h.home hs;exact Nat.le_antisymm (hm _ _ h1 h2) (h3 _ _ hp ha)
def AP:∀(a r:Bytes),r≠[]->strLt a (a++r)=true
 | [],r,h=>by cases r with
  |nil=>exact absurd rfl h
  |cons b r=>rfl
 |x::a,r,h=>by
  rw[aW];simp[strLt,AP a r h]
def Kd{A B:List Bytes}(h:A <+: B)(hne:A≠B)(hn:∀s,s∈B->dB s=true):∃r,r≠[]/\jP B=jP A++r:=by
 obtain⟨C,rfl⟩:=h;cases C with
 |nil=>simp at hne
 |cons c C =>
  cases A with
  |nil =>
   refine⟨c++kL C,?_,by simp[jP,kU]⟩
   have:=EJ (hn c (by simp))
   simp[this]
  |cons a A =>
   refine⟨kL (c::C),by simp[kU],?_⟩
   rw[jP,ak (by simp),jP,ak (by simp),Aa]
def C9(s:Bytes):∀x,x∈(bw s).1->dB x=true:=(lx s).1
def jS.Ku{l:List Piece}(h:jS l){s:Bytes}{i j:Nat}{p q:Piece}(hij:i<j)(hp:l[i]?=some p)(hq:l[j]?=some q)(hpa:jJ p.aR s=true)(hqa:jJ q.aR s=true):vT p <+: vT q/\p.aR.length<=q.aR.length:=by
 rw[mY] at hpa hqa
 have cr:strLt p.aR q.aR=true:=by
  have h1:=bT.1 h.ju i j (aF hp) (aF hq) hij;rw[aj (aF hp)] at hp;rw[aj (aF hq)] at hq;injection hp with hp; injection hq with hq
  rwa[hp,hq] at h1
 have jp:=h.join (aQ hp);have jq:=h.join (aQ hq)
 have hpre:vT p <+: vT q:=by
  rcases List.prefix_or_prefix_of_prefix hpa.2.2 hqa.2.2 with g|g
  ·exact g
  ·by_cases he:vT q=vT p
   ·rw[he]; exact ia _
   ·obtain⟨r,hr,e⟩:=Kd g he (C9 _);rw[<-jp,<-jq] at e;have:=AP q.aR r hr;rw[<-e,rR cr] at this;cases this
 refine⟨hpre,?_⟩
 by_cases he:vT p=vT q
 ·rw[jp,jq,he]; exact ar _
 ·obtain⟨r,_,e⟩:=Kd hpre he (C9 _);rw[jp,jq,e]; simp
def jS.only{l:List Piece}(h:jS l){i j:Nat}{p q:Piece}(hp:l[i]?=some p)(hq:l[j]?=some q)(he:p.aR=q.aR):i=j:=by
 have key:∀ {i j:Nat} {p q:Piece},l[i]?=some p->l[j]?=some q->p.aR=q.aR->¬i<j:=by
  intro i j p q hp hq he hij;have h1:=bT.1 h.ju i j (aF hp) (aF hq) hij;rw[aj (aF hp)] at hp;rw[aj (aF hq)] at hq;injection hp with hp; injection hq with hq
  rw[hp,hq,he,ik] at h1;cases h1
 have:=key hp hq he;have:=key hq hp he.symm;omega
def jS.HF{l:List Piece}(h:jS l){j:Nat}{p:Piece}(hp:l[j]?=some p):df l p.aR=j:=by
 have hm:=aQ hp;have h0:=(h.ok p hm).1;refine uO h h0 hp (mY.2 ⟨h0,h0,ia _⟩) fun k q hk hq=>?_
 rcases bG j k with cr|hge
 ·exfalso;have:=(h.Ku cr hp hk (mY.2 ⟨h0,h0,ia _⟩) hq).1;have h2:=(mY.1 hq).2.2;have e:vT p=vT q:=List.IsPrefix.eq_of_length this (Nat.le_antisymm this.length_le h2.length_le);have:=h.only hp hk (by rw[h.join hm,h.join (aQ hk),e])
  omega
 ·exact hge
def jS.LL{l:List Piece}(h:jS l){L:List Bytes}{x:Bytes}(hL:∀s,s∈L++[x]->dB s=true)(hl:(L++[x]).length<=12)(hno:∀p,p∈l->p.aR≠jP (L++[x])):df l (jP (L++[x]))=df l (jP L):=by
 have s1:=kb hL hl;have s2:=kb (l:=L) (fun s hs=>hL s (eN _ hs)) (by simp at hl; omega)
 obtain⟨p,h1,h2,h3⟩:=h.home (s:=jP L) (by rw[s2])
 have key:∀q,q∈l->(jJ q.aR (jP (L++[x]))=true↔jJ q.aR (jP L)=true):=by
  intro q hq;rw[mY,mY,s1,s2];constructor
  ·rintro⟨a1,_,a3⟩;refine⟨a1,rfl,?_⟩;rcases List.prefix_concat_iff.1 a3 with e|e
   ·exact absurd (by rw[h.join hq,vT,e]) (hno q hq)
   ·exact e
  ·rintro⟨a1,_,a3⟩;exact⟨a1,rfl,a3.trans (jX _ _)⟩
 exact uO h (by rw[s1]) h1 ((key p (aQ h1)).2 h2) fun k q hk hq=>h3 k q hk ((key q (aQ hk)).1 hq)
abbrev SM:=List (Bytes×Int)
def xO:SM->Bytes->Option Int
 | [],_=>none
 |(k',v)::l,k=>if k=k' then some v else xO l k
def Gx:SM->Bytes->Int->SM
 | [],k,v=>[(k,v)]
 |(k',v')::l,k,v=>if k=k' then (k,v)::l else (k',v')::Gx l k v
def AH:∀(l:SM)(k:Bytes)(v:Int)(j:Bytes),xO (Gx l k v) j=if j=k then some v else xO l j
 | [],k,v,j=>by simp only[Gx,xO]
 |(k',v')::l,k,v,j=>by
  simp only[Gx];split
  ·rename_i h;subst h;simp only[xO];split<;>rfl
  ·rename_i h;simp only[xO];split
   ·rename_i h2;rw[ak (fun hh=>h (hh.symm.trans h2))]
   ·exact AH l k v j
def sZ:List Piece->Int->SM->SM
 | [],_,m=>m
 |p::r,i,m=>sZ r (i+1) (Gx m p.aR i)
def lJ(l:List Piece):SM:=sZ l 0 []
def yC:∀(l:List Piece)(i:Int)(m:SM)(s:Bytes),(∀p,p∈l->p.aR≠s)->xO (sZ l i m) s=xO m s
 | [],_,_,_,_=>rfl
 |p::r,i,m,s,h=>by
  rw[sZ,yC r _ _ s fun q hq=>h q (aO _ hq),AH,ak (fun e=>h p aD e.symm)]
def Dl:∀(l:List Piece)(i:Int)(m:SM)(j:Nat)(p:Piece),l[j]?=some p->(∀k q,l[k]?=some q->q.aR=p.aR->k=j)->xO (sZ l i m) p.aR=some (i+j)
 | [],_,_,_,_,h,_=>by simp at h
 |q::r,i,m,0,p,h,ho=>by
  simp only[dU,iz] at h;subst h;rw[sZ,yC r _ _ _ ?_,AH,az rfl]
  ·simp
  ·intro x hx e;obtain⟨k,hk⟩:=bN hx;have:=ho (k+1) x (by simpa using hk) e
   omega
 |q::r,i,m,j+1,p,h,ho=>by
  rw[sZ,Dl r (i+1) _ j p (by simpa using h) fun k x hk hx=>by
   have:=ho (k+1) x (by simpa using hk) hx; omega]
  congr 1; omega
def jS.Xb{l:List Piece}(h:jS l)(s:Bytes):(∃(j:Nat) (p:Piece),l[j]?=some p/\p.aR=s/\xO (lJ l) s=some (j:Int))\/((∀p,p∈l->p.aR≠s)/\xO (lJ l) s=none):=by
 by_cases hp:∃p,p∈l/\p.aR=s
 ·obtain⟨p,hm,rfl⟩:=hp;obtain⟨j,hj⟩:=bN hm;have:=Dl l 0 [] j p hj fun k q hk he=>h.only hk hj he
  exact .inl ⟨j,p,hj,rfl,by rw[lJ,this]; simp⟩
 ·have hno:∀p,p∈l->p.aR≠s:=fun p hm e=>hp ⟨p,hm,e⟩
  exact .inr ⟨hno,by rw[lJ,yC l 0 [] s hno]; rfl⟩
structure Hm where
 jK:AM Int
 met:Int
 whole:Bool
def oC(rec:Int->List Bytes->Hm->Hm)(ae:List Node)(roots:SM)(au:Int)(aR:List Bytes)(s:Hm)(e:ew):Hm :=
 if (bD ae e.au).kind==1 then ⟨kl s.jK e.au ((dq s.jK au).getD 0),s.met,s.whole&&(!((dq s.jK e.au).isSome)||(dq s.jK e.au).getD 0==(dq s.jK au).getD 0)⟩
 else match xO roots (pq (aR++[e.name])) with
  |none=>rec e.au (aR++[e.name]) ⟨kl s.jK e.au ((dq s.jK au).getD 0),s.met,s.whole⟩
  |some a=>rec e.au (aR++[e.name]) ⟨kl (kl s.jK e.au ((dq s.jK au).getD 0)) e.au a,mG (s.met+1),s.whole⟩
def lD(ae:List Node)(roots:SM):Nat->Int->List Bytes->Hm->Hm
 |0,_,_,s=>s
 |f+1,au,aR,s=>(bD ae au).aM.foldl (oC (lD ae roots f) ae roots au aR) s
def sF(l:List Piece)(ae:List Node):Hm:=lD ae (lJ l) 14 1 [] ⟨[(1,0)],1,true⟩
def kV(l:List Piece)(ae:List Node):AM Int×Bool :=
 ((sF l ae).jK,(sF l ae).whole&&((sF l ae).met==(l.length:Int)&&((sF l ae).jK.length:Int)==(ae.length:Int)))
section
variable {t:Tree} {cf:Int->Nat} {l:List Piece}
def cn.DA(h:cn t cf 0):∀(c:Nat)(i:Int)(n:Node),find t.ae i=some n->n.kind=2->cf i=c->∃L,Way t.ae 1 L i/\L.length=c:=by
 intro c;induction c with
 |zero =>
  intro i n hi hk hc
  by_cases h1:i=1
  ·exact⟨[],by simp[Way,h1],rfl⟩
  ·have:=(h.sy _ _ hi hk h1).1; omega
 |succ c ih =>
  intro i n hi hk hc;have h1:i≠1:=by rintro rfl; rw[h.y9] at hc; cases hc
  obtain⟨hd,p,hp,hpk⟩:=h.sy _ _ hi hk h1;obtain⟨L,hL,hl⟩:=ih n.up p hp hpk (by omega)
  obtain⟨p',e,hp',_,he,hei⟩:=h.named hi hk h1 (by have:=(h.num _ _ hi).1; omega)
  rw[hp] at hp'; cases hp';refine⟨L++[e.name],ir.2 ⟨n.up,hL,p,e,hp,hpk,?_,?_,by simpa[Way] using hei⟩,by simp[hl]⟩
  ·exact(h.wB _ _ _ hp he).2.2.2.1
  ·exact(ny (h.jB.aM _ (cg hp).1)).2 ⟨he,rfl⟩
def kO{ae:List Node}:∀ {L:List Bytes} {i j:Int},Way ae i L j->∀s,s∈L->dB s=true
 | [],_,_,_,s,hs=>by cases hs
 |x::L,i,j,⟨d,e,_,_,h3,_,h5⟩,s,hs=>by
  rcases bb.1 hs with rfl|hs
  ·exact h3
  ·exact kO h5 s hs
def Dh(l:List Piece)(ae:List Node)(i:Int)(v:Int):Prop:=∃L,Way ae 1 L i/\v=df l (jP L)
def cn.Co(h:cn t cf 0){i v w:Int}{n:Node}(hi:find t.ae i=some n)(hk:n.kind=2)(a:Dh l t.ae i v)(b:Dh l t.ae i w):v=w:=by
 obtain⟨L,h1,rfl⟩:=a;obtain⟨L',h2,rfl⟩:=b;rw[h.BX L.length rfl h1 h2 hi hk]
structure uD(l:List Piece)(ae:List Node)(k v:Int):Prop where
 dir:∀n,find ae k=some n->n.kind=2->Dh l ae k v
 file:∀n,find ae k=some n->n.kind=1->∃d e,find ae d.au=some d/\d.kind=2/\e∈d.aM/\e.au=k/\Dh l ae d.au v
 ex:∃n,find ae k=some n
def ZR(l:List Piece)(ae:List Node):Prop:=∀d e d' e' n v w,find ae d.au=some d->e∈d.aM->find ae d'.au=some d'->e'∈d'.aM->e.au=e'.au->find ae e.au=some n->n.kind=1->Dh l ae d.au v->Dh l ae d'.au w->v=w
theorem Ir{α:Type}:∀(m:AM α)(k:Int)(v:α)(x:Int),x∈(kl m k v).map Prod.fst↔x=k\/x∈m.map Prod.fst
 | [],k,v,x=>by simp[kl]
 |(k',v')::m,k,v,x=>by
  simp only[kl];split
  ·rename_i h; subst h; simp
  ·have:=Ir m k v x;simp only[aV,bb,this]
   grind
def tP{α:Type}:∀(m:AM α)(k:Int)(v:α),(m.map Prod.fst).Nodup->((kl m k v).map Prod.fst).Nodup
 | [],k,v,_=>by simp[kl]
 |(k',v')::m,k,v,h=>by
  simp only[aV,gW] at h;simp only[kl];split
  ·rename_i he; subst he; simpa using h
  ·rename_i he;simp only[aV,gW];refine⟨fun hx=>?_,tP m k v h.2⟩
   rcases(Ir m k v k').1 hx with e|hx
   ·exact he e.symm
   ·exact h.1 hx
def xx{α:Type}:∀(m:AM α)(k:Int),k∈m.map Prod.fst↔∃v,dq m k=some v
 | [],k=>by simp[dq]
 |(k',v')::m,k=>by
  simp only[dq,aV,bb,xx m k];split
  ·rename_i h; simp[h]
  ·rename_i h; simp[h]
structure Down(l:List Piece)(ae:List Node)(au:Int)(aR:List Bytes)(es:List ew)(s s':Hm)(ms:List (List Bytes)):Prop where
 H8:∀k v,dq s'.jK k=some v->uD l ae k v
 nd:(s'.jK.map Prod.fst).Nodup
 keys:∀k v,dq s.jK k=some v->∃w,dq s'.jK k=some w
 all:∀e,e∈es->∃w,dq s'.jK e.au=some w
 new:∀k v,dq s'.jK k=some v->(∃w,dq s.jK k=some w)\/((∀e,e∈(bD ae k).aM->∃w,dq s'.jK e.au=some w)/\(s'.whole=true->∀e n,e∈(bD ae k).aM->find ae e.au=some n->n.kind=1->∀u,Dh l ae k u->dq s'.jK e.au=some u))
 wh:s'.whole=true->s.whole=true
 fix:s'.whole=true->∀k n v,find ae k=some n->n.kind=1->dq s.jK k=some v->dq s'.jK k=some v
 own:s'.whole=true->∀e n,e∈es->find ae e.au=some n->n.kind=1->∀u,Dh l ae au u->dq s'.jK e.au=some u
 one:ZR l ae->s.whole=true->s'.whole=true
 met:s'.met=s.met+ms.length
 mnd:ms.Nodup
 L8:∀L,L∈ms->∃e B z n p,e∈es/\L=aR++e.name::B/\Way ae 1 L z/\find ae z=some n/\n.kind=2/\p∈l/\p.aR=jP L
 NZ:∀e B z n p,e∈es->Way ae 1 (aR++e.name::B) z->find ae z=some n->n.kind=2->p∈l->p.aR=jP (aR++e.name::B)->aR++e.name::B∈ms
def Met(l:List Piece)(aR:List Bytes)(es:List ew)(s:Hm):Prop:=∃m0:List (List Bytes),s.met=1+m0.length/\m0.Nodup/\(∀L,L∈m0->L∈l.map vT)/\∀L,L∈m0->¬ ∃e B,e∈es/\L=aR++e.name::B
def jS.pathIn(hl:jS l){L:List Bytes}{p:Piece}(hn:∀s,s∈L->dB s=true)(h12:L.length<=12)(hp:p∈l)(he:p.aR=jP L):L∈l.map vT :=
 bR.2 ⟨p,hp,by rw[vT,he,kb hn h12]⟩
def acN(hl:jS l){m0:List (List Bytes)}(h1:m0.Nodup)(h2:∀L,L∈m0->L∈l.map vT):m0.length<=16:=by
 have:=tQ m0 (l.map vT) h1 h2;have:=hl.many;simp at *; omega
def Down.nil{au:Int}{aR:List Bytes}{s:Hm}(h1:∀k v,dq s.jK k=some v->uD l t.ae k v)(h2:(s.jK.map Prod.fst).Nodup):Down l t.ae au aR [] s s [] :=
 ⟨h1,h2,fun k v h=>⟨v,h⟩,fun e he=>(nomatch he),fun k v h => .inl ⟨v,h⟩,fun h=>h,fun _ _ _ _ _ _ h=>h,fun _ e n he=>(nomatch he),fun _ h=>h,by simp,kG,fun L hL=>(nomatch hL),fun e B z n p he=>(nomatch he)⟩
def Down.file(h:cn t cf 0){au v0:Int}{aR:List Bytes}{d:Node}{e:ew}{r:List ew}{s s':Hm}{ms:List (List Bytes)}{n:Node}(hd:find t.ae au=some d)(he:e∈d.aM)(hn:find t.ae e.au=some n)(hk:n.kind=1)
  (hv:dq s.jK au=some v0) (hv0:Dh l t.ae au v0) (hL:∀k v,dq s.jK k=some v->uD l t.ae k v)
  (hw:Way t.ae 1 aR au)
  (g:Down l t.ae au aR r ⟨kl s.jK e.au v0,s.met,s.whole&&(!((dq s.jK e.au).isSome)||(dq s.jK e.au).getD 0==v0)⟩ s' ms):Down l t.ae au aR (e::r) s s' ms:=by
 have hdk:d.kind=2:=by
  rcases h.kind _ _ hd with h1|h1
  ·rw[(h.file _ _ hd h1).1] at he; cases he
  ·exact h1
 have hdi:=h.au hd
 have sw:s'.whole=true->s.whole=true/\∀v,dq s.jK e.au=some v->v=v0:=fun hs=>by
  have:=g.wh hs;simp only[bm,cJ,gS,dM] at this;refine⟨this.1,fun v hv=>?_⟩
  rw[hv] at this;simpa using this.2
 refine⟨g.H8,g.nd,fun k v hk'=>?_,fun e' he'=>?_,fun k v hk'=>?_,fun hs=>(sw hs).1,fun hs k m v hm hmk hkv=>?_,fun hs e' m he' hm hmk u hu=>?_,fun ho hs=>?_,g.met,g.mnd,fun L hL=>?_,fun e' B z m p he' hw' hm hmk hp hpj=>?_⟩
 ·by_cases hke:k=e.au
  ·exact g.keys k v0 (by simp[fX,hke])
  ·exact g.keys k v (by simp[fX,hke,hk'])
 ·rcases bb.1 he' with rfl|he'
  ·exact g.keys _ v0 (by simp[fX])
  ·exact g.all e' he'
 ·rcases g.new k v hk' with ⟨w,hw'⟩|hc
  ·by_cases hke:k=e.au
   ·right;have hne:(bD t.ae k).aM=[]:=by rw[hke]; simp[bD,hn,(h.file _ _ hn hk).1]
    rw[hne];exact⟨fun _ he1=>(nomatch he1),fun _ _ m he1=>(nomatch he1)⟩
   ·simp only[fX,hke,aw] at hw';exact .inl ⟨w,hw'⟩
  ·exact .inr hc
 ·refine g.fix hs k m v hm hmk ?_
  by_cases hke:k=e.au
  ·rw[hke] at hkv;simp[fX,hke,(sw hs).2 v hkv]
  ·simp[fX,hke,hkv]
 ·rcases bb.1 he' with rfl|he'
  ·have:u=v0:=h.Co hd hdk hu hv0;subst this;exact g.fix hs _ m _ hm hmk (by simp[fX])
  ·exact g.own hs e' m he' hm hmk u hu
 ·refine g.one ho ?_;simp only[hs,bP,cJ,gS,dM];cases hme:dq s.jK e.au with
  |none=>exact .inl rfl
  |some w =>
   right;obtain⟨d',e',hd',_,he',hei,hD⟩:=(hL _ _ hme).file n hn hk;exact(ho d e d' e' n v0 w (by rw[hdi]; exact hd) he hd' he' hei.symm hn hk (by rw[hdi]; exact hv0) hD).symm
 ·obtain⟨e',B,z,m,p,q1,q2⟩:=g.L8 L hL;exact⟨e',B,z,m,p,aO _ q1,q2⟩
 ·rcases bb.1 he' with rfl|he'
  ·exfalso;have hfe:=(ny (h.jB.aM _ (cg hd).1)).2 ⟨he,rfl⟩;obtain⟨k,k1,k2⟩:=ir.1 hw';have:=xF k1 hw;subst this;obtain⟨d',e'',a1,a2,a3,a4,a5⟩:=k2;rw[hd] at a1; cases a1;rw[hfe] at a4; cases a4;cases B with
   |nil =>
    simp only[Way] at a5;subst a5;rw[hn] at hm; cases hm;rw[hk] at hmk; cases hmk
   |cons b B =>
    obtain⟨d2,_,b1,b2,_⟩:=a5;rw[hn] at b1; cases b1;rw[hk] at b2; cases b2
  ·exact g.NZ e' B z m p he' hw' hm hmk hp hpj
def Down.dir(h:cn t cf 0){au:Int}{aR:List Bytes}{d:Node}{e:ew}{r:List ew}{s s1 s2 s':Hm}{mp m1 m2:List (List Bytes)}{n:Node}(hd:find t.ae au=some d)(he:e∈d.aM)(hn:find t.ae e.au=some n)(hk:n.kind=2)
  (hw:Way t.ae 1 aR au) (hnd:∀x,x∈r->x.name≠e.name)
  (i1:∀k,k≠e.au->dq s1.jK k=dq s.jK k) (i2:∃w,dq s1.jK e.au=some w) (i3:s1.whole=s.whole) (i4:s1.met=s.met+mp.length)
  (i5:mp.Nodup/\∀L,L∈mp↔L=aR++[e.name]/\∃p,p∈l/\p.aR=jP L)
  (g1:Down l t.ae e.au (aR++[e.name]) n.aM s1 s2 m1) (g:Down l t.ae au aR r s2 s' m2):Down l t.ae au aR (e::r) s s' (mp++m1++m2):=by
 have hne:(bD t.ae e.au).aM=n.aM:=by simp[bD,hn]
 have Uq:∀k v,dq s.jK k=some v->∃w,dq s1.jK k=some w:=fun k v hv=>by
  by_cases hke:k=e.au
  ·rw[hke]; exact i2
  ·exact⟨v,by rw[i1 k hke]; exact hv⟩
 have up:∀k v,dq s1.jK k=some v->∃w,dq s'.jK k=some w:=fun k v hv=>by
  obtain⟨w,hw⟩:=g1.keys k v hv;exact g.keys k w hw
 have wayE:Way t.ae 1 (aR++[e.name]) e.au:=ir.2 ⟨au,hw,d,e,hd,by
  rcases h.kind _ _ hd with h1|h1
  ·rw[(h.file _ _ hd h1).1] at he; cases he
  ·exact h1,(h.wB _ _ _ hd he).2.2.2.1,(ny (h.jB.aM _ (cg hd).1)).2 ⟨he,rfl⟩,rfl⟩
 refine⟨g.H8,g.nd,fun k v hk'=>?_,fun e' he'=>?_,fun k v hk'=>?_,fun hs=>?_,fun hs k m v hm hmk hkv=>?_,fun hs e' m he' hm hmk u hu=>?_,fun ho hs=>?_,?_,?_,fun L hL=>?_,fun e' B z m p he' hw' hm hmk hp hpj=>?_⟩
 ·obtain⟨w,hw⟩:=Uq k v hk';exact up k w hw
 ·rcases bb.1 he' with rfl|he'
  ·obtain⟨w,hw⟩:=i2; exact up _ w hw
  ·exact g.all e' he'
 ·rcases g.new k v hk' with ⟨w,hw'⟩|hc
  ·rcases g1.new k w hw' with ⟨w2,hw2⟩|⟨c1,c2⟩
   ·by_cases hke:k=e.au
    ·right;rw[hke,hne];refine⟨fun e' he'=>?_,fun hs e' m he' hm hmk u hu=>?_⟩
     ·obtain⟨x,hx⟩:=g1.all e' he';exact g.keys _ x hx
     ·exact g.fix hs _ m _ hm hmk (g1.own (g.wh hs) e' m he' hm hmk u hu)
    ·rw[i1 k hke] at hw2;exact .inl ⟨w2,hw2⟩
   ·right;refine⟨fun e' he'=>?_,fun hs e' m he' hm hmk u hu=>?_⟩
    ·obtain⟨x,hx⟩:=c1 e' he';exact g.keys _ x hx
    ·exact g.fix hs _ m _ hm hmk (c2 (g.wh hs) e' m he' hm hmk u hu)
  ·exact .inr hc
 ·have:=g1.wh (g.wh hs); rw[<-i3]; exact this
 ·refine g.fix hs k m v hm hmk (g1.fix (g.wh hs) k m v hm hmk ?_);rw[i1 k ?_]
  ·exact hkv
  ·rintro rfl;rw[hn] at hm; cases hm;rw[hk] at hmk; cases hmk
 ·rcases bb.1 he' with rfl|he'
  ·rw[hn] at hm; cases hm;rw[hk] at hmk; cases hmk
  ·exact g.own hs e' m he' hm hmk u hu
 ·exact g.one ho (g1.one ho (by rw[i3]; exact hs))
 ·rw[g.met,g1.met,i4]; simp; omega
 ·refine kv.2 ⟨kv.2 ⟨i5.1,g1.mnd,fun a ha b hb=>?_⟩,g.mnd,fun a ha b hb=>?_⟩
  ·rintro rfl;obtain⟨rfl,_⟩:=(i5.2 a).1 ha;obtain⟨e',B,_,_,_,_,q,_⟩:=g1.L8 _ hb;have:=congrArg List.length q;simp at this
  ·rintro rfl;obtain⟨e2,B2,_,_,_,q1,q2,_⟩:=g.L8 _ hb;rcases bS.1 ha with ha|ha
   ·obtain⟨q3,_⟩:=(i5.2 a).1 ha;rw[q2] at q3;have:=iu q3;injection this with this _
    exact hnd e2 q1 this
   ·obtain⟨e',B,_,_,_,_,q,_⟩:=g1.L8 _ ha;rw[q2,cZ] at q;have:=iu q;rw[aW] at this;injection this with this _
    exact hnd e2 q1 this
 ·rcases bS.1 hL with hL|hL
  ·rcases bS.1 hL with hL|hL
   ·obtain⟨rfl,p,hp,hpj⟩:=(i5.2 L).1 hL;exact⟨e,[],e.au,n,p,aD,rfl,wayE,hn,hk,hp,hpj⟩
   ·obtain⟨e',B,z,m,p,q1,q2,q3⟩:=g1.L8 L hL;exact⟨e,e'.name::B,z,m,p,aD,by rw[q2]; simp,q3⟩
  ·obtain⟨e',B,z,m,p,q1,q2⟩:=g.L8 L hL;exact⟨e',B,z,m,p,aO _ q1,q2⟩
 ·rcases bb.1 he' with rfl|he'
  ·rw[cZ];cases B with
   |nil=>exact eN _ ((i5.2 _).2 ⟨rfl,p,hp,hpj⟩)
   |cons b B =>
    refine gZ _ (eN _ ?_);have e0:aR++e'.name::b::B=(aR++[e'.name])++b::B:=by simp
    rw[e0] at hw' hpj ⊢;obtain⟨k,k1,k2⟩:=ir.1 hw';have:=xF k1 wayE;subst this;obtain⟨d2,e2,b1,b2,b3,b4,b5⟩:=k2;rw[hn] at b1; cases b1;obtain⟨m1',m2'⟩:=eu b4;rw[<-m2'] at hw' hpj ⊢;exact g1.NZ e2 B z m p m1' hw' hm hmk hp hpj
  ·exact gZ _ (g.NZ e' B z m p he' hw' hm hmk hp hpj)
def Ni(h:cn t cf 0)(hl:jS l):∀(f:Nat)(au:Int)(aR:List Bytes)(s:Hm)(d:Node)(v0:Int),find t.ae au=some d->d.kind=2->13<f+cf au->Way t.ae 1 aR au->dq s.jK au=some v0 ->
  (∀k v,dq s.jK k=some v->uD l t.ae k v)->(s.jK.map Prod.fst).Nodup->Met l aR d.aM s->∃ms,Down l t.ae au aR d.aM s (lD t.ae (lJ l) f au aR s) ms:=by
 intro f;induction f with
 |zero =>
  intro au aR s d v0 hd hk hf;have:=(h.deep _ _ hd hk).1; omega
 |succ f ih =>
  intro au aR s d v0 hd hk hf hw hv hL hnd hM;have hne:(bD t.ae au).aM=d.aM:=by simp[bD,hd]
  have hasc:=h.jB.aM _ (cg hd).1;rw[lD,hne]
  have key:∀(es:List ew)(s:Hm)(v0:Int),(∀e,e∈es->e∈d.aM)->es.Pairwise (fun a b=>b.name≠a.name)->dq s.jK au=some v0->(∀k v,dq s.jK k=some v->uD l t.ae k v)->(s.jK.map Prod.fst).Nodup->Met l aR es s ->
    ∃ms,Down l t.ae au aR es s (es.foldl (oC (lD t.ae (lJ l) f) t.ae (lJ l) au aR) s) ms:=by
   intro es;induction es with
   |nil=>intro s v0 _ _ _ hL hnd _; exact⟨[],Down.nil hL hnd⟩
   |cons e r ihl =>
    intro s v0 hs hp hv hL hnd hM;rw[bA];have he:=hs e aD;have hr:=fun x hx=>hs x (aO _ hx)
    obtain⟨hp1,hp2⟩:=bF.1 hp;obtain⟨_,_,e1,hnm,m,hm,hu⟩:=h.wB _ _ _ hd he;have hD0:Dh l t.ae au v0:=(hL _ _ hv).dir d hd hk;have hmn:bD t.ae e.au=m:=by simp[bD,hm]
    obtain⟨m0,t1,t2,t3,t4⟩:=hM;rcases h.kind _ _ hm with hmk|hmk
    ·have hst:oC (lD t.ae (lJ l) f) t.ae (lJ l) au aR s e=⟨kl s.jK e.au v0,s.met,s.whole&&(!((dq s.jK e.au).isSome)||(dq s.jK e.au).getD 0==v0)⟩:=by
      unfold oC;rw[az (by simp[hmn,hmk]),hv]; rfl
     rw[hst]
     have hL':∀k v,dq (kl s.jK e.au v0) k=some v->uD l t.ae k v:=fun k v hkv=>by
      rw[fX] at hkv;split at hkv
      ·rename_i hke;cases hkv; subst hke;refine⟨fun n hn hnk=>?_,fun n hn hnk=>⟨d,e,by rw[h.au hd]; exact hd,hk,he,rfl,by rw[h.au hd]; exact hD0⟩,⟨m,hm⟩⟩
       rw[hm] at hn; cases hn;rw[hmk] at hnk; cases hnk
      ·exact hL k v hkv
     obtain⟨v1,hv1⟩:∃v1,dq (kl s.jK e.au v0) au=some v1:=by
      rw[fX];split
      ·exact⟨_,rfl⟩
      ·exact⟨_,hv⟩
     obtain⟨ms,g⟩:=ihl ⟨kl s.jK e.au v0,s.met,s.whole&&(!((dq s.jK e.au).isSome)||(dq s.jK e.au).getD 0==v0)⟩ v1 hr hp2 hv1 hL' (tP _ _ _ hnd) ⟨m0,t1,t2,t3,fun L hL ⟨x,B,hx,e⟩=>t4 L hL ⟨x,B,aO _ hx,e⟩⟩
     exact⟨ms,Down.file h hd he hm hmk hv hD0 hL hw g⟩
    ·have wayE:Way t.ae 1 (aR++[e.name]) e.au:=ir.2 ⟨au,hw,d,e,hd,hk,hnm,(ny hasc).2 ⟨he,rfl⟩,rfl⟩;have hdep:=(h.sy _ _ hm hmk e1).1;rw[hu hmk] at hdep;have hnms:=kO wayE;have h12:=h.pJ wayE;obtain⟨L0,w0,rfl⟩:=hD0;have:L0=aR:=h.BX L0.length rfl w0 hw hd hk;subst this;have hk1:((bD t.ae e.au).kind==1)=false:=by simp[hmn,hmk]
     have fin:∀(s1:Hm) (mp:List (List Bytes)) (w:Int),oC (lD t.ae (lJ l) f) t.ae (lJ l) au L0 s e=lD t.ae (lJ l) f e.au (L0++[e.name]) s1 ->
       (∀k,k≠e.au->dq s1.jK k=dq s.jK k)->dq s1.jK e.au=some w->w=df l (jP (L0++[e.name]))->s1.whole=s.whole->s1.met=s.met+mp.length->(s1.jK.map Prod.fst).Nodup ->
       (mp.Nodup/\∀L,L∈mp↔L=L0++[e.name]/\∃p,p∈l/\p.aR=jP L) ->
       ∃ms,Down l t.ae au L0 (e::r) s (r.foldl (oC (lD t.ae (lJ l) f) t.ae (lJ l) au L0) (oC (lD t.ae (lJ l) f) t.ae (lJ l) au L0 s e)) ms:=by
      intro s1 mp w q0 q1 q2 q3 q4 q5 q6 q7;rw[q0]
      have hL1:∀k v,dq s1.jK k=some v->uD l t.ae k v:=fun k v hkv=>by
       by_cases hke:k=e.au
       ·subst hke;rw[q2] at hkv; cases hkv;refine⟨fun n hn hnk=>⟨_,wayE,q3⟩,fun n hn hnk=>?_,⟨m,hm⟩⟩
        rw[hm] at hn; cases hn;rw[hmk] at hnk; cases hnk
       ·rw[q1 k hke] at hkv; exact hL k v hkv
      have hmp1:∀L,L∈mp->L∈l.map vT:=fun L hLm=>by
       obtain⟨rfl,p,hp,hpj⟩:=(q7.2 L).1 hLm;exact hl.pathIn hnms h12 hp hpj
      have hnod:(m0++mp).Nodup:=kv.2 ⟨t2,q7.1,fun a ha b hb=>by
       rintro rfl;obtain⟨rfl,_⟩:=(q7.2 a).1 hb;exact t4 _ ha ⟨e,[],aD,rfl⟩⟩
      obtain⟨ms1,g1⟩:=ih e.au (L0++[e.name]) s1 m w hm hmk (by omega) wayE q2 hL1 q6 ⟨m0++mp,by rw[q5,t1]; simp; omega,hnod,fun L hLm=>(bS.1 hLm).elim (t3 L) (hmp1 L),fun L hLm ⟨x,B,hx,ex⟩=>by
       rcases bS.1 hLm with hLm|hLm
       ·exact t4 L hLm ⟨e,x.name::B,aD,by rw[ex]; simp⟩
       ·obtain⟨rfl,_⟩:=(q7.2 L).1 hLm;have:=congrArg List.length ex;simp at this⟩
      generalize lD t.ae (lJ l) f e.au (L0++[e.name]) s1=s2 at g1 ⊢
      obtain⟨v2,hv2⟩:∃v2,dq s2.jK au=some v2:=by
       by_cases hie:au=e.au
       ·rw[hie]; exact g1.keys _ w q2
       ·exact g1.keys _ _ (by rw[q1 _ hie]; exact hv)
      have hms1:∀L,L∈ms1->L∈l.map vT:=fun L hLm=>by
       obtain⟨_,_,z,_,p,_,_,hwz,_,_,hp,hpj⟩:=g1.L8 L hLm;exact hl.pathIn (kO hwz) (h.pJ hwz) hp hpj
      obtain⟨ms2,g2⟩:=ihl s2 v2 hr hp2 hv2 g1.H8 g1.nd ⟨m0++mp++ms1,by rw[g1.met,q5,t1]; simp; omega,kv.2 ⟨hnod,g1.mnd,fun a ha b hb=>by
        rintro rfl;obtain⟨x,B,_,_,_,_,ex,_⟩:=g1.L8 _ hb;rcases bS.1 ha with ha|ha
        ·exact t4 _ ha ⟨e,x.name::B,aD,by rw[ex]; simp⟩
        ·obtain⟨rfl,_⟩:=(q7.2 a).1 ha;have:=congrArg List.length ex;simp at this⟩,fun L hLm=>by
        rcases bS.1 hLm with hLm|hLm
        ·exact(bS.1 hLm).elim (t3 L) (hmp1 L)
        ·exact hms1 L hLm,fun L hLm ⟨x,B,hx,ex⟩=>by
        rcases bS.1 hLm with hLm|hLm
        ·rcases bS.1 hLm with hLm|hLm
         ·exact t4 L hLm ⟨x,B,aO _ hx,ex⟩
         ·obtain⟨rfl,_⟩:=(q7.2 L).1 hLm;have:=iu ex;injection this with this _
          exact hp1 x hx this.symm
        ·obtain⟨y,B',_,_,_,_,ey,_⟩:=g1.L8 _ hLm;rw[ey,cZ] at ex;have:=iu ex;rw[aW] at this;injection this with this _
         exact hp1 x hx this.symm⟩
      exact⟨mp++ms1++ms2,Down.dir h hd he hm hmk hw (fun x hx=>hp1 x hx) q1 ⟨w,q2⟩ q4 q5 q7 g1 g2⟩
     have jn:pq (L0++[e.name])=jP (L0++[e.name]):=ra _;rcases hl.Xb (jP (L0++[e.name])) with ⟨j,p,hj,hpj,hg⟩|⟨hno,hg⟩
     ·refine fin ⟨kl (kl s.jK e.au ((dq s.jK au).getD 0)) e.au j,mG (s.met+1),s.whole⟩ [L0++[e.name]] j ?_ (fun k hk=>by simp[fX,hk]) (by simp[fX]) (by rw[<-hpj,hl.HF hj]) rfl ?_ (tP _ _ _ (tP _ _ _ hnd)) ⟨by simp,fun L=>by
       simp only[eO];exact⟨fun hL=>⟨hL,p,aQ hj,by rw[hL]; exact hpj⟩,fun hL=>hL.1⟩⟩
      ·unfold oC;rw[hk1,ak (by simp),jn,hg]
      ·have:=acN hl t2 t3;rw[show mG (s.met+1)=s.met+1 from gx (by omega) (by omega)]; simp
     ·refine fin ⟨kl s.jK e.au ((dq s.jK au).getD 0),s.met,s.whole⟩ [] (df l (jP L0)) ?_ (fun k hk=>by simp[fX,hk]) (by simp[fX,hv]) (by rw[hl.LL hnms h12 hno]) rfl (by simp) (tP _ _ _ hnd) ⟨by simp,fun L=>by
       simp only[List.not_mem_nil,false_iff];rintro⟨rfl,p,hp,hpj⟩;exact hno p hp hpj⟩
      ·unfold oC;rw[hk1,ak (by simp),jn,hg]
  refine key d.aM s v0 (fun e h=>h) (hasc.imp fun {a b} hab=>?_) hv hL hnd hM
  intro e;rw[e,ik] at hab;cases hab
end
section
variable {t:Tree} {cf:Int->Nat} {l:List Piece}
structure ry(l:List Piece)(ae:List Node):Prop where
 Cp:∀p,p∈l->∃z n,Way ae 1 (vT p) z/\find ae z=some n/\n.kind=2
 kept:∀i n,find ae i=some n->n.kind=1->∃d e,find ae d.au=some d/\d.kind=2/\e∈d.aM/\e.au=i
 one:ZR l ae
def jS.nd(hl:jS l):(l.map vT).Nodup:=by
 rw[List.Nodup,jl];refine List.Pairwise.imp_of_mem (fun {a b} ha hb hab e=>?_) hl.ju
 rw[hl.join ha,hl.join hb,e,ik] at hab;cases hab
def jS.nil(hl:jS l):[]∈l.map vT:=by
 obtain⟨p,r,rfl,hp⟩:=hl.fst;exact bR.2 ⟨p,aD,by rw[vT,hp]; rfl⟩
def jS.ND(hl:jS l):df l (jP [])=0:=by
 obtain⟨p,r,rfl,hp⟩:=hl.fst;have:=hl.HF (j:=0) (p:=p) rfl;rw[hp] at this; exact this
structure Found(l:List Piece)(t:Tree)(s:Hm)(ms:List (List Bytes)):Prop where
 H8:∀k v,dq s.jK k=some v->uD l t.ae k v
 nd:(s.jK.map Prod.fst).Nodup
 Cp:∀i n,find t.ae i=some n->n.kind=2->∃v,dq s.jK i=some v
 all:∀i n e,find t.ae i=some n->e∈n.aM->∃v,dq s.jK e.au=some v
 own:s.whole=true->∀i d e n u,find t.ae i=some d->e∈d.aM->find t.ae e.au=some n->n.kind=1->Dh l t.ae i u->dq s.jK e.au=some u
 one:ZR l t.ae->s.whole=true
 met:s.met=1+ms.length
 mnd:ms.Nodup
 L8:∀L,L∈ms->L≠[]/\∃z n p,Way t.ae 1 L z/\find t.ae z=some n/\n.kind=2/\p∈l/\p.aR=jP L
 NZ:∀L z n p,L≠[]->Way t.ae 1 L z->find t.ae z=some n->n.kind=2->p∈l->p.aR=jP L->L∈ms
def Bf(h:cn t cf 0)(hl:jS l):∃ms,Found l t (sF l t.ae) ms:=by
 obtain⟨r,hr,hrk,_⟩:=h.root;have hw:Way t.ae 1 [] 1:=rfl
 obtain⟨ms,g⟩:=Ni h hl 14 1 [] ⟨[(1,0)],1,true⟩ r 0 hr hrk (by omega) hw rfl (fun k v hkv=>by
  simp only[dq] at hkv;split at hkv
  ·rename_i hk;cases hkv; subst hk;refine⟨fun n hn hnk=>⟨[],hw,by rw[hl.ND]; rfl⟩,fun n hn hnk=>?_,⟨r,hr⟩⟩
   rw[hr] at hn; cases hn;rw[hrk] at hnk; cases hnk
  ·cases hkv) (by simp) ⟨[],by simp,kG,by simp,by simp⟩
 have hne:(bD t.ae 1).aM=r.aM:=by simp[bD,hr]
 have hS:sF l t.ae=lD t.ae (lJ l) 14 1 [] ⟨[(1,0)],1,true⟩:=rfl;rw[<-hS] at g;generalize sF l t.ae=s at g ⊢
 have clo:∀k v,dq s.jK k=some v->∀e,e∈(bD t.ae k).aM->∃w,dq s.jK e.au=some w:=fun k v hk e he=>by
  rcases g.new k v hk with ⟨w,hw⟩|⟨hc,_⟩
  ·simp only[dq] at hw;split at hw
   ·rename_i h1; subst h1;rw[hne] at he; exact g.all e he
   ·cases hw
  ·exact hc e he
 have reach:∀(L:List Bytes)(i j:Int),Way t.ae i L j->(∃v,dq s.jK i=some v)->∃v,dq s.jK j=some v:=by
  intro L;induction L with
  |nil=>intro i j hw hi; rw[Way] at hw; rw[<-hw]; exact hi
  |cons x L ih =>
   rintro i j ⟨d,e,h1,h2,h3,h4,h5⟩ ⟨v,hv⟩;refine ih _ _ h5 (clo i v hv e ?_);have:=(eu h4).1;simpa[bD,h1] using this
 have root:∃v,dq s.jK 1=some v:=g.keys 1 0 rfl
 have Cp:∀i n,find t.ae i=some n->n.kind=2->∃v,dq s.jK i=some v:=fun i n hi hk=>by
  obtain⟨L,hL,_⟩:=h.DA (cf i) i n hi hk rfl;exact reach L 1 i hL root
 have isd:∀i n e,find t.ae i=some n->e∈n.aM->n.kind=2:=fun i n e hi he=>by
  rcases h.kind _ _ hi with h1|h1
  ·rw[(h.file _ _ hi h1).1] at he; cases he
  ·exact h1
 refine⟨ms,g.H8,g.nd,Cp,fun i n e hi he=>?_,fun hs i d e n u hd he hn hk hu=>?_,fun ho=>g.one ho rfl,g.met,g.mnd,fun L hL=>?_,fun L z n p hL hw hz hk hp hpj=>?_⟩
 ·obtain⟨v,hv⟩:=Cp i n hi (isd i n e hi he);exact clo i v hv e (by simpa[bD,hi] using he)
 ·obtain⟨v,hv⟩:=Cp i d hd (isd i d e hd he);rcases g.new i v hv with ⟨w,hw'⟩|⟨_,hc⟩
  ·simp only[dq] at hw';split at hw'
   ·rename_i h1; subst h1;rw[hr] at hd; cases hd;exact g.own hs e n he hn hk u hu
   ·cases hw'
  ·exact hc hs e n (by simpa[bD,hd] using he) hn hk u hu
 ·obtain⟨e,B,z,n,p,q1,q2,q3⟩:=g.L8 L hL;exact⟨by rw[q2]; simp,z,n,p,q3⟩
 ·cases L with
  |nil=>exact absurd rfl hL
  |cons x B =>
   obtain⟨d,e,h1,h2,h3,h4,h5⟩:=hw;rw[hr] at h1; cases h1;obtain⟨m1,m2⟩:=eu h4;have:=g.NZ e B z n p m1 (by rw[aX,m2]; exact⟨r,e,hr,h2,h3,h4,h5⟩) hz hk hp (by rw[aX,m2]; exact hpj)
   rw[aX,m2] at this;exact this
def zI{ae:List Node}(h:nI ae):(ae.map Node.au).Nodup:=by
 rw[List.Nodup,jl];exact h.imp fun {a b} hab=>by omega
def LG{α:Type}[DecidableEq α]{a b:List α}(ha:a.Nodup)(hs:∀x,x∈a->x∈b)(hl:b.length<=a.length)(x:α)(hx:x∈b):x∈a:=by
 by_cases h:x∈a
 ·exact h
 ·have:=tQ (x::a) b (gW.2 ⟨h,ha⟩) (fun y hy=>(bb.1 hy).elim (fun e=>e▸hx) (hs y))
  simp at this; omega
def uQ(h:cn t cf 0)(hl:jS l):(kV l t.ae).2=true↔ry l t.ae:=by
 obtain⟨ms,g⟩:=Bf h hl
 have hsub:∀x,x∈(sF l t.ae).jK.map Prod.fst->x∈t.ae.map Node.au:=fun x hx=>by
  obtain⟨v,hv⟩:=(xx _ _).1 hx;obtain⟨n,hn⟩:=(g.H8 _ _ hv).ex;exact bR.2 ⟨n,(cg hn).1,h.au hn⟩
 have hms:∀L,L∈[]::ms->L∈l.map vT:=fun L hL=>by
  rcases bb.1 hL with rfl|hL
  ·exact hl.nil
  ·obtain⟨_,z,n,p,q1,_,_,q4,q5⟩:=g.L8 L hL;exact hl.pathIn (kO q1) (h.pJ q1) q4 q5
 have hnd:([]::ms).Nodup:=gW.2 ⟨fun hx=>(g.L8 _ hx).1 rfl,g.mnd⟩
 simp only[kV,bm,dM];rw[g.met];constructor
 ·rintro⟨w1,w2,w3⟩;refine⟨fun p hp=>?_,fun i n hi hk=>?_,fun d e d' e' n v w hd he hd' he' hee hn hk hv hw=>?_⟩
  ·have:=LG hnd hms (by simp; omega) (vT p) (bR.2 ⟨p,hp,rfl⟩)
   rcases bb.1 this with e|hL
   ·obtain⟨r,hr,hrk,_⟩:=h.root;exact⟨1,r,by rw[e]; rfl,hr,hrk⟩
   ·obtain⟨_,z,n,_,q1,q2,q3,_⟩:=g.L8 _ hL;exact⟨z,n,q1,q2,q3⟩
  ·have:=LG g.nd hsub (by simp; omega) i (bR.2 ⟨n,(cg hi).1,h.au hi⟩)
   obtain⟨v,hv⟩:=(xx _ _).1 this;obtain⟨d,e,q1,q2,q3,q4,_⟩:=(g.H8 _ _ hv).file n hi hk;exact⟨d,e,q1,q2,q3,q4⟩
  ·have a:=g.own w1 _ _ _ _ _ hd he hn hk hv;rw[hee] at a hn;have b:=g.own w1 _ _ _ _ _ hd' he' hn hk hw;rw[a] at b; injection b
 ·intro m;refine⟨g.one m.one,?_,?_⟩
  ·have h1:=tQ _ _ hnd hms
   have h2:=tQ (l.map vT) ([]::ms) hl.nd fun L hL=>by
    obtain⟨p,hp,rfl⟩:=bR.1 hL
    by_cases hL0:vT p=[]
    ·rw[hL0]; exact aD
    ·obtain⟨z,n,q1,q2,q3⟩:=m.Cp p hp;exact aO _ (g.NZ _ z n p hL0 q1 q2 q3 hp (hl.join hp))
   simp at h1 h2; omega
  ·have h1:=tQ _ _ g.nd hsub
   have h2:=tQ (t.ae.map Node.au) ((sF l t.ae).jK.map Prod.fst) (zI h.jB.ju) fun x hx=>by
    obtain⟨n,hn,rfl⟩:=bR.1 hx;have hf:=(ft h.jB.ju).2 ⟨hn,rfl⟩;rw[xx];rcases h.kind _ _ hf with hk|hk
    ·obtain⟨d,e,q1,_,q3,q4⟩:=m.kept _ _ hf hk;rw[<-q4];exact g.all _ _ _ q1 q3
    ·exact g.Cp _ _ hf hk
   simp at h1 h2; omega
def uN(l:List Piece)(ae:List Node)(i:Int):Int:=(dq (kV l ae).1 i).getD 0
def po(h:cn t cf 0)(hl:jS l)(m:ry l t.ae){i:Int}{n:Node}(hi:find t.ae i=some n):uD l t.ae i (uN l t.ae i):=by
 obtain⟨ms,g⟩:=Bf h hl
 have:∃v,dq (sF l t.ae).jK i=some v:=by
  rcases h.kind _ _ hi with hk|hk
  ·obtain⟨d,e,q1,_,q3,q4⟩:=m.kept _ _ hi hk;rw[<-q4];exact g.all _ _ _ q1 q3
  ·exact g.Cp _ _ hi hk
 obtain⟨v,hv⟩:=this;have e:uN l t.ae i=v:=by simp[uN,kV,hv]
 rw[e];exact g.H8 _ _ hv
def H9(h:cn t cf 0)(m:ry l t.ae){i v w:Int}(a:uD l t.ae i v)(b:uD l t.ae i w):v=w:=by
 obtain⟨n,hn⟩:=a.ex;rcases h.kind _ _ hn with hk|hk
 ·obtain⟨d,e,q1,q2,q3,q4,q5⟩:=a.file n hn hk;obtain⟨d',e',r1,r2,r3,r4,r5⟩:=b.file n hn hk;exact m.one d e d' e' n v w q1 q3 r1 r3 (q4.trans r4.symm) (by rw[q4]; exact hn) hk q5 r5
 ·exact h.Co hn hk (a.dir n hn hk) (b.dir n hn hk)
end
section
variable {l l':List Piece}
def mD(l:List Piece)(i:Nat):Piece:=(l[i]?).getD default
def mR(l:List Piece)(i:Nat)(e:Int):List Piece:=l.set i { mD l i with dJ:=e }
def rj(l:List Piece)(s:Bytes):Option Nat:=l.findIdx? fun p=>p.aR==s
def xM(l:List Piece)(p:Piece):List Piece:=l.takeWhile (fun q=>strLt q.aR p.aR)++p::l.dropWhile (fun q=>strLt q.aR p.aR)
def mq(n:Int):Bool:=decide (0<=n)&&decide (n<8)
def uK(l:List Piece)(s:Bytes)(to:Int):List Piece×Int :=
 if mq to=false then (l,1)
 else if (bw s).2 != 0 then (l,(bw s).2)
 else match rj l s with
  |some _=>(l,71)
  |none=>if decide ((16:Int)<=l.length)||decide (1099511627776<=(mD l (df l s)).dJ) then (l,76)
   else (xM (mR l (df l s) ((mD l (df l s)).dJ+1)) ⟨s,to,(mD l (df l s)).dJ+1⟩,0)
def lN(l:List Piece)(s:Bytes):List Piece×Int :=
 if (bw s).2 != 0 then (l,(bw s).2)
 else match rj l s with
  |none=>(l,180)
  |some 0=>(l,180)
  |some (a+1) =>
   let e:=max (mD l (a+1)).dJ (mD l (df l (fy s).2.1)).dJ
   if 1099511627776<=e then (l,76) else ((mR l (df l (fy s).2.1) (e+1)).eraseIdx (a+1),0)
def mU(l:List Piece)(s:Bytes)(to:Int):List Piece×Int :=
 if mq to=false then (l,1)
 else if (bw s).2 != 0 then (l,(bw s).2)
 else match rj l s with
  |none=>(l,180)
  |some a=>if 1099511627776<=(mD l a).dJ then (l,76) else (l.set a ⟨s,to,(mD l a).dJ+1⟩,0)
def pw{s:Bytes}{a:Nat}(h:rj l s=some a):∃p,l[a]?=some p/\p.aR=s:=by
 obtain⟨h1,h2,_⟩:=List.findIdx?_eq_some_iff_getElem.1 h;exact⟨_,aj h1,by simpa using h2⟩
def Di{s:Bytes}(h:rj l s=none):∀p,p∈l->p.aR≠s:=fun p hp=>by
 have:=List.findIdx?_eq_none_iff.1 h p hp;simpa using this
def jS.of(hp:l'.map Piece.aR=l.map Piece.aR)(h:jS l)(ho:∀p,p∈l'->0<=p.group/\p.group<8/\1<=p.dJ/\p.dJ<=1099511627776):jS l':=by
 have eU:l'.length=l.length:=by have:=congrArg List.length hp; simpa using this
 refine⟨?_,by have:=h.many; omega,fun p hm=>?_,?_⟩
 ·obtain⟨p,r,rfl,hr⟩:=h.fst;cases l' with
  |nil=>cases eU
  |cons q r' =>
   refine⟨q,r',rfl,?_⟩;simp only[aV] at hp;injection hp with hp _
   rw[hp]; exact hr
 ·refine⟨?_,ho p hm⟩;have:p.aR∈l.map Piece.aR:=by rw[<-hp]; exact bR.2 ⟨p,hm,rfl⟩
  obtain⟨q,hq,e⟩:=bR.1 this;rw[<-e]; exact(h.ok q hq).1
 ·have h1:=h.ju;rw[<-jl (f:=Piece.aR) (R:=fun a b=>strLt a b=true)] at h1 ⊢
  rw[hp]; exact h1
def xh(l:List Piece)(i:Nat)(e:Int):(mR l i e).map Piece.aR=l.map Piece.aR:=by
 apply cN;intro k;rw[mR,kR,List.getElem?_set];split
 ·rename_i hk;subst hk;rw[aY];simp only[aH];split
  ·rename_i cr;simp[mD,aj cr]
  ·rename_i cr;rw[eG (by omega)]; rfl
 ·rfl
def p8{i:Nat}(h:i<l.length):mD l i∈l:=by
 simp[mD,aj h]
def jS.bump(h:jS l){i:Nat}{e:Int}(h1:1<=e)(h2:e<=1099511627776):jS (mR l i e):=by
 refine jS.of (xh l i e) h fun p hp=>?_
 rcases bG i l.length with hi|hi
 ·rcases kS hp with hp|rfl
  ·exact(h.ok p hp).2
  ·have:=(h.ok _ (p8 hi)).2;exact⟨this.1,this.2.1,h1,h2⟩
 ·rw[mR,List.set_eq_of_length_le hi] at hp;exact(h.ok p hp).2
def Be(s:Bytes):∀(l l':List Piece)(i b:Nat),l'.map Piece.aR=l.map Piece.aR->qk s l' i b=qk s l i b
 | [],[],_,_,_=>rfl
 | [],_::_,_,_,h=>by cases h
 |_::_,[],_,_,h=>by cases h
 |p::r,p'::r',i,b,h=>by
  simp only[aV] at h;injection h with h1 h2
  rw[qk,qk,h1,Be s r r' _ _ h2]
def J8(h:l'.map Piece.aR=l.map Piece.aR)(s:Bytes):df l' s=df l s:=Be s l l' 0 0 h
def jS.rV(h:jS l){s:Bytes}(hs:(bw s).2=0):df l s<l.length:=by
 obtain⟨p,hp,_⟩:=h.home hs;exact aF hp
def Qs(l:List Piece)(p:Piece):(xM l p).length=l.length+1:=by
 have h:=congrArg List.length (List.takeWhile_append_dropWhile (p:=fun q:Piece=>strLt q.aR p.aR) (l:=l))
 rw[aJ] at h;simp only[xM,aJ,av]; omega
theorem S4{p q:Piece}:q∈xM l p↔q=p\/q∈l:=by
 have:q∈l↔q∈l.takeWhile (fun q=>strLt q.aR p.aR)\/q∈l.dropWhile (fun q=>strLt q.aR p.aR):=by
  rw[<-bS,List.takeWhile_append_dropWhile]
 rw[this];simp only[xM,bS,bb]
 grind
def Cs{s:Bytes}:∀ {l:List Piece},l.Pairwise (fun a b=>strLt a.aR b.aR=true)->∀q,q∈l.dropWhile (fun q=>strLt q.aR s)->strLt q.aR s=false
 | [],_,q,hq=>by simp at hq
 |p::r,h,q,hq=>by
  obtain⟨h1,h2⟩:=bF.1 h;rw[k7] at hq;split at hq
  ·exact Cs h2 q hq
  ·rename_i hp;have hp:strLt p.aR s=false:=by simpa using hp
   rcases bb.1 hq with rfl|hq
   ·exact hp
   ·cases hc:strLt q.aR s with
    |false=>rfl
    |true =>
     have:=qK (h1 q hq) hc;rw[hp] at this; cases this
def jS.ins(h:jS l){p:Piece}(hn:∀q,q∈l->q.aR≠p.aR)(eU:l.length<16)(hp:(bw p.aR).2=0/\0<=p.group/\p.group<8/\1<=p.dJ/\p.dJ<=1099511627776):jS (xM l p):=by
 refine⟨?_,by rw[Qs]; omega,fun q hq=>?_,?_⟩
 ·obtain⟨p0,r,rfl,h0⟩:=h.fst
  have cr:strLt p0.aR p.aR=true:=by
   rw[h0];have hj:p.aR=jP (vT p):=uT (fC rfl hp.1);have hne:vT p≠[]:=fun e=>hn p0 aD (by rw[h0,hj,e]; rfl)
   obtain⟨x,hx,e⟩:=Kd (A:=[]) (B:=vT p) (by simp) (dA hne) (C9 _)
   rw[hj,e];exact AP _ _ hx
  refine⟨p0,r.takeWhile (fun q=>strLt q.aR p.aR)++p::r.dropWhile (fun q=>strLt q.aR p.aR),?_,h0⟩
  simp[xM,cr]
 ·rcases S4.1 hq with rfl|hq
  ·exact hp
  ·exact h.ok q hq
 ·have hT:∀q,q∈l.takeWhile (fun q=>strLt q.aR p.aR)->strLt q.aR p.aR=true:=fun q hq=>by
   have:=List.all_takeWhile (p:=fun q:Piece=>strLt q.aR p.aR) (l:=l)
   exact bu.1 this q hq
  have hD:∀q,q∈l.dropWhile (fun q=>strLt q.aR p.aR)->strLt p.aR q.aR=true:=fun q hq=>by
   have h1:=Cs h.ju q hq;rcases qF p.aR q.aR with g|g|g
   ·exact g
   ·exact absurd g.symm (hn q (List.dropWhile_subset _ hq))
   ·rw[h1] at g; cases g
  unfold xM;refine dw.2 ⟨h.ju.sublist (List.takeWhile_sublist _),bF.2 ⟨hD,h.ju.sublist (List.dropWhile_sublist _)⟩,fun a ha b hb=>?_⟩
  rcases bb.1 hb with rfl|hb
  ·exact hT a ha
  ·exact qK (hT a ha) (hD b hb)
def BK(h:jS l){s:Bytes}{to:Int}:jS (uK l s to).1:=by
 unfold uK;split
 ·exact h
 rename_i hg;split
 ·exact h
 rename_i hs;have hs:(bw s).2=0:=by simpa using hs
 split
 ·exact h
 rename_i hno;split
 ·exact h
 rename_i hm;simp only[cJ,bt,kH,Int.not_le] at hm;have cr:=h.rV hs;have hok:=h.ok _ (p8 cr);have hb:=h.bump (i:=df l s) (e:=(mD l (df l s)).dJ+1) (by omega) (by omega)
 simp only[mq,kq,bm,bt] at hg;refine hb.ins (fun q hq e=>?_) (by simp[mR]; omega) ⟨hs,hg.1,hg.2,by simp only; omega,by simp only; omega⟩
 have:q.aR∈l.map Piece.aR:=by rw[<-xh l (df l s) ((mD l (df l s)).dJ+1)]; exact bR.2 ⟨q,hq,rfl⟩
 obtain⟨q',hq',e'⟩:=bR.1 this;exact Di hno q' hq' (e'.trans e)
def C6{s:Bytes}{to:Int}:(mU l s to).1.map Piece.aR=l.map Piece.aR:=by
 unfold mU;split
 ·rfl
 split
 ·rfl
 split
 ·rfl
 rename_i a ha;split
 ·rfl
 obtain⟨p,hp,rfl⟩:=pw ha;apply cN;intro k;rw[kR,List.getElem?_set];split
 ·rename_i hk;subst hk;rw[aY,hp];simp[aF hp]
 ·rfl
def S5(h:jS l){s:Bytes}{to:Int}:jS (mU l s to).1:=by
 refine jS.of C6 h fun p hp=>?_
 unfold mU at hp;split at hp
 ·exact(h.ok p hp).2
 rename_i hg;split at hp
 ·exact(h.ok p hp).2
 split at hp
 ·exact(h.ok p hp).2
 rename_i a ha;split at hp
 ·exact(h.ok p hp).2
 rename_i he;simp only[mq,kq,bm,bt] at hg;obtain⟨q,hq,_⟩:=pw ha;have:=(h.ok _ (p8 (aF hq))).2;rcases kS hp with hp|rfl
 ·exact(h.ok p hp).2
 ·exact⟨hg.1,hg.2,by simp only; omega,by simp only; omega⟩
def Ip{ae:List Node}(hp:l'.map Piece.aR=l.map Piece.aR)(m:ry l ae):ry l' ae:=by
 refine⟨fun p hpm=>?_,m.kept,fun d e d' e' n v w h1 h2 h3 h4 h5 h6 h7 h8 h9=>?_⟩
 ·have:p.aR∈l.map Piece.aR:=by rw[<-hp]; exact bR.2 ⟨p,hpm,rfl⟩
  obtain⟨q,hq,e⟩:=bR.1 this;obtain⟨z,n,q1⟩:=m.Cp q hq;exact⟨z,n,by rw[vT,<-e]; exact q1⟩
 ·obtain⟨L,a1,a2⟩:=h8;obtain⟨L',b1,b2⟩:=h9;rw[J8 hp] at a2 b2;exact m.one d e d' e' n v w h1 h2 h3 h4 h5 h6 h7 ⟨L,a1,a2⟩ ⟨L',b1,b2⟩
def jS.erase(h:jS l)(a:Nat):jS (l.eraseIdx (a+1)):=by
 obtain⟨p,r,rfl,hp⟩:=h.fst;refine⟨⟨p,r.eraseIdx a,rfl,hp⟩,?_,fun q hq=>h.ok q (List.mem_of_mem_eraseIdx hq),h.ju.sublist (List.eraseIdx_sublist _ _)⟩
 have:=(List.eraseIdx_sublist (p::r) (a+1)).length_le;have:=h.many;omega
def jS.CN(h:jS l){a:Nat}{pa:Piece}(ha:l[a+1]?=some pa){P:List Bytes}{x:Bytes}(hx:vT pa=P++[x]){s:Bytes}(hs:(bw s).2=0) :
  df (l.eraseIdx (a+1)) s=if df l s=a+1 then df l (jP P) else if df l s<a+1 then df l s else df l s-1:=by
 have hpm:=aQ ha;have hno:=C9 pa.aR;have h12:=(lx pa.aR).2;rw[show(bw pa.aR).1=P++[x] from hx] at hno h12
 have sP:bw (jP P)=(P,0):=kb (fun y hy=>hno y (eN _ hy)) (by simp at h12; omega)
 obtain⟨p,h1,h2,h3⟩:=h.home hs;have ge:∀k,(l.eraseIdx (a+1))[k]?=if k<a+1 then l[k]? else l[k+1]?:=fun k=>List.getElem?_eraseIdx
 split
 ·rename_i he;rw[he] at h1 h3;rw[ha] at h1; cases h1;obtain⟨u,u1,u2,u3⟩:=h.home (s:=jP P) (by rw[sP])
  have hPs:P <+: (bw s).1:=by
   have:=(mY.1 h2).2.2;rw[show(bw pa.aR).1=P++[x] from hx] at this
   exact(jX _ _).trans this
  have hua:jJ u.aR s=true:=by
   rw[mY] at u2 ⊢;rw[sP] at u2;exact⟨u2.1,hs,u2.2.2.trans hPs⟩
  have hle:=h3 _ _ u1 hua
  have hne:df l (jP P)≠a+1:=fun e=>by
   rw[e,ha] at u1; cases u1;have:=(mY.1 u2).2.2;rw[sP,show(bw pa.aR).1=P++[x] from hx] at this
   have:=this.length_le;simp at this;omega
  refine uO (h.erase a) hs (by rw[ge,az (by omega)]; exact u1) hua fun k q hk hq=>?_
  rw[ge] at hk;split at hk
  ·rename_i cr;refine u3 k q hk ?_;rw[mY] at hq ⊢;have hl:=(h.Ku cr hk ha (mY.2 hq) h2).1;rw[hx] at hl;rw[sP];refine⟨hq.1,rfl,?_⟩;rcases List.prefix_concat_iff.1 hl with e|e
   ·exfalso;have:=h.only hk ha (by rw[h.join (aQ hk),h.join hpm,e,hx])
    omega
   ·exact e
  ·have:=h3 _ _ hk hq;omega
 ·rename_i hne
  have up:∀k q,(l.eraseIdx (a+1))[k]?=some q->jJ q.aR s=true->(if k<a+1 then k else k+1)<=df l s:=fun k q hk hq=>by
   rw[ge] at hk;split at hk
   ·rename_i cr; rw[az cr]; exact h3 k q hk hq
   ·rename_i cr; rw[ak cr]; exact h3 _ q hk hq
  split
  ·rename_i cr;refine uO (h.erase a) hs (by rw[ge,az cr]; exact h1) h2 fun k q hk hq=>?_
   have:=up k q hk hq;split at this<;>omega
  ·rename_i hge;refine uO (h.erase a) hs (by rw[ge,ak (by omega),show df l s-1+1=df l s by omega]; exact h1) h2 fun k q hk hq=>?_
   have:=up k q hk hq;split at this<;>omega
def N0{t:Tree}{cf:Int->Nat}(ht:cn t cf 0)(h:jS l){a:Nat}{pa:Piece}(ha:l[a+1]?=some pa)(m:ry l t.ae):ry (l.eraseIdx (a+1)) t.ae:=by
 have hne:vT pa≠[]:=fun e=>by
  obtain⟨p,r,rfl,hp⟩:=h.fst;have:=h.only (i:=a+1) (j:=0) ha rfl (by rw[h.join (aQ ha),e,hp]; rfl)
  omega
 obtain⟨P,x,hx⟩:∃P x,vT pa=P++[x]:=⟨_,_,(List.dropLast_concat_getLast hne).symm⟩;refine⟨fun p hp=>m.Cp p (List.mem_of_mem_eraseIdx hp),m.kept,fun d e d' e' n v w h1 h2 h3 h4 h5 h6 h7 h8 h9=>?_⟩
 obtain⟨L,a1,rfl⟩:=h8;obtain⟨L',b1,rfl⟩:=h9;have hs:(bw (jP L)).2=0:=by rw[kb (kO a1) (ht.pJ a1)]
 have hs':(bw (jP L')).2=0:=by rw[kb (kO b1) (ht.pJ b1)]
 have:=m.one d e d' e' n _ _ h1 h2 h3 h4 h5 h6 h7 ⟨L,a1,rfl⟩ ⟨L',b1,rfl⟩;rw[h.CN ha hx hs,h.CN ha hx hs'];have e0:df l (jP L)=df l (jP L'):=by exact_mod_cast this
 rw[e0]
def Qw(h:jS l){s:Bytes}:jS (lN l s).1:=by
 unfold lN;split
 ·exact h
 rename_i hs;have hs:(bw s).2=0:=by simpa using hs
 split
 ·exact h
 ·exact h
 rename_i a ha;simp only;split
 ·exact h
 rename_i he;obtain⟨p,hp,_⟩:=pw ha;have cr:a+1<l.length:=aF hp;have:=(h.ok _ (p8 cr)).2;exact(h.bump (by omega) (by omega)).erase a
def S2{t:Tree}{cf:Int->Nat}(ht:cn t cf 0)(h:jS l){s:Bytes}(m:ry l t.ae):ry (lN l s).1 t.ae:=by
 unfold lN;split
 ·exact m
 rename_i hs;split
 ·exact m
 ·exact m
 rename_i a ha;simp only;split
 ·exact m
 rename_i he;obtain⟨p,hp,_⟩:=pw ha;have cr:a+1<l.length:=aF hp;have:=(h.ok _ (p8 cr)).2;have hb:=h.bump (i:=df l (fy s).2.1) (e:=max (mD l (a+1)).dJ (mD l (df l (fy s).2.1)).dJ+1) (by omega) (by omega)
 have hm:=Ip (xh l (df l (fy s).2.1) (max (mD l (a+1)).dJ (mD l (df l (fy s).2.1)).dJ+1)) m
 have hl:a+1<(mR l (df l (fy s).2.1) (max (mD l (a+1)).dJ (mD l (df l (fy s).2.1)).dJ+1)).length:=by
  have:=aF hp;simpa[mR] using this
 exact N0 ht hb (aj hl) hm
end
section
variable {t:Tree} {cf:Int->Nat} {l:List Piece}
def kj(l:List Piece)(ae:List Node)(i:Int):Int:=(mD l (uN l ae i).toNat).group
def qm(k:Node->Int)(ae:List Node):List qu:=(List.range 8).filterMap fun(g:Nat)=>if (ae.filter fun n=>k n==(g:Int)).isEmpty=true then none else some ⟨g,ae.filter fun n=>k n==(g:Int)⟩
def bl(l:List Piece)(t:Tree):vX:=⟨l,qm (fun n=>kj l t.ae n.au) t.ae,t.next,t.ai⟩
def wD{α:Type}(p q:α->Bool)(hpq:∀x,p x=true->q x=false):∀ns:List α,(ns.filter p++ns.filter q).Perm (ns.filter fun x=>p x||q x)
 | []=>by simp
 |a::ns=>by
  have ih:=wD p q hpq ns;cases hp:p a with
  |true=>simpa[hV,hp,hpq a hp] using ih
  |false =>
   cases hq:q a with
   |true =>
    simp only[hV,hp,hq,af,aw,aE,dG];exact List.perm_middle.trans (ih.cons a)
   |false=>simpa[hV,hp,hq] using ih
def C1(k:Node->Int)(ae:List Node):∀m:Nat,(((List.range m).filterMap fun(g:Nat)=>if (ae.filter fun n=>k n==(g:Int)).isEmpty=true then none else some (qu.mk g (ae.filter fun n=>k n==(g:Int)))).flatMap qu.ae).Perm (ae.filter fun n=>decide (0<=k n)&&decide (k n<m))
 |0=>by
  simp only[List.range_zero,jV,List.flatMap_nil];rw[List.filter_eq_nil_iff.2 ?_];intro a _;simp
 |m+1=>by
  rw[oc,kg,jD];have ih:=C1 k ae m
  have e:([m].filterMap fun(g:Nat)=>if (ae.filter fun n=>k n==(g:Int)).isEmpty=true then none else some (qu.mk g (ae.filter fun n=>k n==(g:Int)))).flatMap qu.ae=ae.filter fun n=>k n==(m:Int):=by
   simp only[k9,jV];split
   ·rename_i h;split at h
    ·rename_i h1;rw[List.isEmpty_iff.1 h1]; simp
    ·cases h
   ·rename_i x h;split at h
    ·cases h
    ·cases h; simp
  rw[e];refine(ih.append_right _).trans ((wD _ _ (fun x hx=>?_) ae).trans (List.Perm.of_eq ?_))
  ·simp only[bm,bt] at hx;simp; omega
  ·apply List.filter_congr;intro x _;rw[eb];simp only[cJ,bm,bt,dM];omega
def Ih(k:Node->Int)(ae:List Node)(hk:∀n,n∈ae->0<=k n/\k n<8):((qm k ae).flatMap qu.ae).Perm ae:=by
 refine(C1 k ae 8).trans (List.Perm.of_eq ?_);apply gn.2;intro n hn;have:=hk n hn;simp only[bm,bt];exact⟨this.1,by exact_mod_cast this.2⟩
def Dh.lt(h:cn t cf 0)(hl:jS l){i v:Int}(d:Dh l t.ae i v):0<=v/\v.toNat<l.length:=by
 obtain⟨L,h1,rfl⟩:=d;have:=hl.rV (s:=jP L) (by rw[kb (kO h1) (h.pJ h1)])
 simp; omega
def uD.dh(h:cn t cf 0){i v:Int}(a:uD l t.ae i v):∃k,Dh l t.ae k v:=by
 obtain⟨n,hn⟩:=a.ex;rcases h.kind _ _ hn with hk|hk
 ·obtain⟨d,_,_,_,_,_,q⟩:=a.file n hn hk;exact⟨_,q⟩
 ·exact⟨_,a.dir n hn hk⟩
def aaW(h:cn t cf 0)(hl:jS l)(m:ry l t.ae){n:Node}(hn:n∈t.ae):0<=kj l t.ae n.au/\kj l t.ae n.au<8:=by
 have hf:=(ft h.jB.ju).2 ⟨hn,rfl⟩;obtain⟨k,q⟩:=(po h hl m hf).dh h;have:=(hl.ok _ (p8 (q.lt h hl).2)).2;exact⟨this.1,this.2.1⟩
def tb(h:cn t cf 0)(hl:jS l)(m:ry l t.ae):((bl l t).eh.flatMap qu.ae).Perm t.ae :=
 Ih _ _ fun _ hn=>aaW h hl m hn
def Pk{a b:List Node}(ha:nI a)(hb:nI b)(h:a.Perm b):a=b:=BJ ha hb fun m=>h.mem_iff
end
section
variable {t:Tree} {cf:Int->Nat} {l:List Piece}
def UL(a b:Bytes):Bool:=(jy a).2==0&&((jy b).2==0&&(jy a).1.isPrefixOf (jy b).1)
def K9(a b:Bytes):UL a b=jJ a b:=by unfold UL jJ; rw[tZ,tZ]
def yd(all:List Piece)(s:Bytes):List Piece->Nat->Nat->Nat
 | [],_,b=>b
 |p::r,i,b=>yd all s r (i+1) (if UL p.aR s&&decide (((mD all b).aR.length:Int)<=p.aR.length) then i else b)
def ofD(l:List Piece)(s:Bytes):Int×Int:=if (jy s).2 != 0 then (0,60) else (yd l s l 0 0,0)
def zQ(hl:jS l){s:Bytes}(hs:(bw s).2=0):∀(r pre:List Piece)(b:Nat)(q:Piece),l=pre++r->l[b]?=some q->jJ q.aR s=true->b<=pre.length->yd l s r pre.length b=qk s r pre.length b
 | [],_,_,_,_,_,_,_=>rfl
 |p::r,pre,b,q,h,hb,hq,hle=>by
  rw[yd,qk,K9];have hp:l[pre.length]?=some p:=by rw[h]; simp
  have hbq:mD l b=q:=by simp[mD,hb]
  by_cases ha:jJ p.aR s=true
  ·have eU:q.aR.length<=p.aR.length:=by
    rcases bG b pre.length with cr|hge
    ·exact(hl.Ku cr hb hp hq ha).2
    ·have:b=pre.length:=by omega
     subst this;rw[hb] at hp; cases hp; exact ar _
   rw[az (by rw[ha,hbq]; simpa using eU),az ha]
   have:=zQ hl hs r (pre++[p]) pre.length p (by rw[h]; simp) hp ha (by simp)
   simpa using this
  ·rw[ak (by simp[ha]),ak ha]
   have:=zQ hl hs r (pre++[p]) b q (by rw[h]; simp) hb hq (by simp; omega)
   simpa using this
def KB(hl:jS l){s:Bytes}(hs:(bw s).2=0):ofD l s=((df l s:Int),0):=by
 unfold ofD;rw[tZ,ak (by simp[hs])]
 obtain⟨p,r,e,hp⟩:=hl.fst;have h0:l[0]?=some p:=by rw[e]; rfl
 have:=zQ hl hs l [] 0 p rfl h0 (by rw[hp]; exact B6 hs) (ar _)
 simp only[aG] at this;rw[this]; rfl
def lH(au:Int)(ns:List Bytes)(e:ew):List Bytes:=if e.au==au then e.name::ns else ns
def Gq(ae:List Node):Nat->Int->List Bytes->List Bytes
 |0,_,ns=>ns
 |m+1,au,ns=>if au != 1 then Gq ae m (bD ae au).up ((bD ae (bD ae au).up).aM.foldl (lH au) ns) else ns
def TC(ae:List Node)(au:Int):Bytes:=Er (Gq ae ae.length au [])
def ET(au:Int):∀(es:List ew)(ns:List Bytes),mW es au=0->es.foldl (lH au) ns=ns
 | [],_,_=>rfl
 |e::es,ns,h=>by
  rw[rH] at h;rw[bA,lH,ak (by simp; intro hc; rw[az hc] at h; omega)]
  exact ET au es ns (by omega)
def Df(au:Int):∀(es:List ew)(ns:List Bytes)(e:ew),e∈es->e.au=au->mW es au<=1->es.foldl (lH au) ns=e.name::ns
 |x::es,ns,e,he,hi,h=>by
  rw[rH] at h;rw[bA];rcases bb.1 he with rfl|he
  ·rw[az hi] at h;rw[lH,az (by simpa using hi),ET au es _ (by omega)]
  ·have:0<mW es au:=Cm.2 ⟨e,he,hi⟩
   by_cases hx:x.au=au
   ·rw[az hx] at h; omega
   ·rw[lH,ak (by simpa using hx)]
    exact Df au es ns e he hi (by omega)
def wz{n:Node}(i:Int):∀ {ns:List Node},n∈ns->mW n.aM i<=qN ns i
 |m::ns,h=>by
  rw[qU];rcases bb.1 h with rfl|h
  ·omega
  ·have:=wz (n:=n) i h; omega
def Iz(h:cn t cf 0):∀(m:Nat)(L:List Bytes)(au:Int)(ns:List Bytes)(n:Node),Way t.ae 1 L au->find t.ae au=some n->n.kind=2->L.length<=m->Gq t.ae m au ns=L++ns
 |0,L,au,ns,n,hw,hi,hk,hm=>by
  have:L=[]:=cm (by omega)
  subst this; rfl
 |m+1,L,au,ns,n,hw,hi,hk,hm=>by
  rw[Gq]
  by_cases h1:au=1
  ·rw[ak (by simp[h1])]
   obtain⟨r,hr,hrk,_⟩:=h.root;subst h1;have:L=[]:=h.BX L.length rfl hw (L':=[]) rfl hr hrk;subst this; rfl
  ·rw[az (by simpa using h1)]
   rcases eF L with rfl|⟨P,x,rfl⟩
   ·exact absurd hw.symm h1
   ·rw[eZ] at *;obtain⟨p,hp,d,e,hd,hdk,hx,he,hee⟩:=ir.1 hw;rw[Way] at hee;obtain⟨he1,he2⟩:=eu he;obtain⟨m',hm',hu,_⟩:=h.step hd he;rw[hee,hi] at hm'; cases hm';have hup:n.up=p:=(hu hk).1;have hn:bD t.ae au=n:=by simp[bD,hi]
    have hd':bD t.ae p=d:=by simp[bD,hd]
    have hc:mW d.aM au<=1:=by
     have q1:=wz (n:=d) au (cg hd).1;have q2:=h.one _ _ hi hk h1;have q3:=h.dj _ _ hi;have q4:=(h.num _ _ hi).1;rw[q2,ak (by omega)] at q3
     omega
    rw[hn,hup,hd',Df au d.aM ns e he1 hee hc,he2,Iz h m P p (x::ns) d hp hd hdk (by simp at hm; omega)]
    simp
def Iy(h:cn t cf 0){L:List Bytes}{au:Int}{n:Node}(hw:Way t.ae 1 L au)(hi:find t.ae au=some n)(hk:n.kind=2):TC t.ae au=jP L:=by
 have hl:L.length<=t.ae.length:=by
  obtain⟨r,hr,hrk,_⟩:=h.root;have e:=h.td hw hr hrk hi hk;have:=h.yh hi hk;rw[h.y9] at e; omega
 rw[TC,Iz h _ L au [] n hw hi hk hl,bV,CR]
def vH(own o:Int):Int:=if o == -1 then own else if o != own then -2 else o
def p6(own:Int)(e:ew)(ae:List Node)(out:List Int):List Int:=List.zipWith (fun n o=>if n.au != e.au||n.kind != 1 then o else vH own o) ae out
def vC(l:List Piece)(ae:List Node)(d:Node):Int:=(ofD l (TC ae d.au)).1
def pF(l:List Piece)(ae:List Node)(s:Nat×List Int)(d:Node):Nat×List Int :=
 (s.1+1,if d.kind != 2 then s.2 else d.aM.foldl (fun o e=>p6 (vC l ae d) e ae o) (s.2.set s.1 (vC l ae d)))
def r8(l:List Piece)(ae:List Node):List Int:=(ae.foldl (pF l ae) (0,ae.map fun _ => -1)).2
def Dd(own:Int)(i:Int)(es:List ew):List Int:=es.filterMap fun e=>if e.au=i then some own else none
def ER(l:List Piece)(ae:List Node)(i:Int)(ds:List Node):List Int:=ds.flatMap fun d=>if d.kind=2 then Dd (vC l ae d) i d.aM else []
def BG(l:List Piece)(ae:List Node)(ds:List Node)(n:Node):Int:=(ER l ae n.au ds).foldl (fun o own=>vH own o) (-1)
def Im(own:Int)(e:ew)(f:Node->Int):∀ae:List Node,p6 own e ae (ae.map f)=ae.map fun n=>if n.au=e.au/\n.kind=1 then vH own (f n) else f n
 | []=>rfl
 |n::ns=>by
  have ih:=Im own e f ns;simp only[p6,aV,List.zipWith_cons_cons] at ih ⊢;rw[ih];congr 1
  by_cases h1:n.au=e.au<;>by_cases h2:n.kind=1<;>simp[h1,h2]
def EF(own:Int)(ae:List Node):∀(es:List ew)(f:Node->Int),es.foldl (fun o e=>p6 own e ae o) (ae.map f)=ae.map fun n=>if n.kind=1 then (Dd own n.au es).foldl (fun o own=>vH own o) (f n) else f n
 | [],f=>by simp[Dd]
 |e::es,f=>by
  rw[bA,Im,EF own ae es];apply bW;intro n _
  by_cases h2:n.kind=1
  ·by_cases h1:n.au=e.au
   ·simp[h1,h2,Dd]
   ·simp[h1,h2,Dd,dA h1]
  ·simp[h2]
def EU(h:cn t cf 0):∀(ds pre:List Node),t.ae=pre++ds->ds.foldl (pF l t.ae) (pre.length,t.ae.map fun n=>if n.kind=2 then (if n∈pre then vC l t.ae n else -1) else BG l t.ae pre n) =
  (t.ae.length,t.ae.map fun n=>if n.kind=2 then vC l t.ae n else BG l t.ae t.ae n)
 | [],pre,e=>by
  rw[bV] at e;rw[gN,<-e];refine fC rfl ?_;apply bW;intro n hn;simp[hn]
 |d::ds,pre,e=>by
  have hnd:t.ae.Nodup:=h.jB.ju.imp fun {a b} hab hc=>by rw[hc] at hab; omega
  have hdp:d∉pre:=by
   rw[e] at hnd;have:=(kv.1 hnd).2.2;exact fun hd=>this d hd d aD rfl
  have hfile:∀n,n∈t.ae->n.kind=1\/n.kind=2:=fun n hn=>h.kind _ _ ((ft h.jB.ju).2 ⟨hn,rfl⟩)
  rw[bA];have hgo:=EU h ds (pre++[d]) (by rw[e]; simp)
  have eU:(pre++[d]).length=pre.length+1:=by simp
  rw[eU] at hgo;rw[<-hgo];congr 1;unfold pF;refine fC rfl ?_;simp only
  by_cases hk:d.kind=2
  ·rw[ak (by simp[hk])]
   have hset:(t.ae.map fun n=>if n.kind=2 then (if n∈pre then vC l t.ae n else -1) else BG l t.ae pre n).set pre.length (vC l t.ae d) =
     t.ae.map fun n=>if n.kind=2 then (if n∈pre++[d] then vC l t.ae n else -1) else BG l t.ae pre n:=by
    apply cN;intro i;rw[List.getElem?_set];split
    ·rename_i hi;subst hi;rw[aY,e];simp[hk]
    ·rename_i hi;rw[aY,aY];cases hx:t.ae[i]? with
     |none=>rfl
     |some n =>
      have hne:n≠d:=by
       rintro rfl;have hd:t.ae[pre.length]?=some n:=by rw[e]; simp
       exact hi (ZW h.jB.ju hd hx rfl)
      simp[hne]
   rw[hset,EF];apply bW;intro n hn;rcases hfile n hn with h1|h1
   ·rw[az h1,ak (by omega),ak (by omega)]
    simp[BG,ER,hk,jk]
   ·rw[ak (by omega),az h1,az h1]
  ·rw[az (by simpa using hk)]
   apply bW;intro n hn;rcases hfile n hn with h1|h1
   ·rw[ak (by omega),ak (by omega)]
    simp[BG,ER,hk]
   ·have:n≠d:=by rintro rfl; exact hk h1
    rw[az h1,az h1];simp[this]
def AA(h:cn t cf 0):r8 l t.ae=t.ae.map fun n=>if n.kind=2 then vC l t.ae n else BG l t.ae t.ae n:=by
 have:=EU (l:=l) h t.ae [] rfl;unfold r8
 have e0:(t.ae.map fun _=>(-1:Int))=t.ae.map fun n=>if n.kind=2 then (if n∈([]:List Node) then vC l t.ae n else -1) else BG l t.ae [] n:=by
  apply bW;intro n _;simp[BG,ER]
 rw[e0];exact congrArg Prod.snd this
def MD:∀ws:List Int,ws.foldl (fun o own=>vH own o) (-2) = -2\/∃w,w∈ws/\w = -2
 | [] => .inl rfl
 |w::ws=>by
  rw[bA]
  by_cases hw:w = -2
  ·exact .inr ⟨w,aD,hw⟩
  ·have:vH w (-2) = -2:=by unfold vH; rw[ak (by decide),az (by simp; omega)]
   rw[this];rcases MD ws with g|⟨x,hx,g⟩
   ·exact .inl g
   ·exact .inr ⟨x,aO _ hx,g⟩
def MC{v:Int}(hv:0<=v):∀ws:List Int,(∀w,w∈ws->0<=w)->(ws.foldl (fun o own=>vH own o) v=v/\∀w,w∈ws->w=v)\/(ws.foldl (fun o own=>vH own o) v = -2/\∃w,w∈ws/\w≠v)
 | [],_ => .inl ⟨rfl,by simp⟩
 |w::ws,h=>by
  rw[bA];have h2:=fun x hx=>h x (aO _ hx)
  by_cases hw:w=v
  ·subst hw;have:vH w w=w:=by unfold vH; rw[ak (by simp; omega),ak (by simp)]
   rw[this];rcases MC hv ws h2 with ⟨g1,g2⟩|⟨g1,x,hx,g2⟩
   ·exact .inl ⟨g1,fun y hy=>(bb.1 hy).elim id (g2 y)⟩
   ·exact .inr ⟨g1,x,aO _ hx,g2⟩
  ·have:vH w v = -2:=by unfold vH; rw[ak (by simp; omega),az (by simp; omega)]
   rw[this];refine .inr ⟨?_,w,aD,hw⟩;rcases MD ws with g|⟨x,hx,g⟩
   ·exact g
   ·have:=h2 x hx; omega
def Xp{ws:List Int}(h:∀w,w∈ws->0<=w){v:Int}(hv:0<=v):ws.foldl (fun o own=>vH own o) (-1)=v↔v∈ws/\∀w,w∈ws->w=v:=by
 cases ws with
 |nil=>simp; omega
 |cons w ws =>
  rw[bA];have h0:=h w aD;have:vH w (-1)=w:=by unfold vH; rw[az (by decide)]
  rw[this];rcases MC h0 ws (fun x hx=>h x (aO _ hx)) with ⟨g1,g2⟩|⟨g1,x,hx,g2⟩
  ·rw[g1];constructor
   ·rintro rfl;exact⟨aD,fun y hy=>(bb.1 hy).elim id (g2 y)⟩
   ·rintro⟨_,g⟩;exact g w aD
  ·rw[g1];constructor
   ·intro e; omega
   ·rintro⟨_,g⟩;have a:=g w aD;have b:=g x (aO _ hx);omega
def xz(h:cn t cf 0)(hl:jS l){d:Node}{i:Int}(hd:find t.ae i=some d)(hk:d.kind=2):Dh l t.ae i (vC l t.ae d)/\0<=vC l t.ae d:=by
 obtain⟨L,hw,_⟩:=h.DA (cf i) i d hd hk rfl;have hi:=h.au hd;subst hi
 have:vC l t.ae d=df l (jP L):=by
  rw[vC,Iy h hw hd hk,KB hl (by rw[kb (kO hw) (h.pJ hw)])]
 rw[this];exact⟨⟨L,hw,rfl⟩,by simp⟩
def wQ{ae:List Node}{i w:Int}{ds:List Node}:w∈ER l ae i ds↔∃d e,d∈ds/\d.kind=2/\e∈d.aM/\e.au=i/\w=vC l ae d:=by
 simp only[ER,hZ];constructor
 ·rintro⟨d,hd,hw⟩;split at hw
  ·rename_i hk;simp only[Dd,jW] at hw;obtain⟨e,he,h2⟩:=hw;split at h2
   ·rename_i hi;injection h2 with h2
    exact⟨d,e,hd,hk,he,hi,h2.symm⟩
   ·cases h2
  ·cases hw
 ·rintro⟨d,e,hd,hk,he,hi,rfl⟩;refine⟨d,hd,?_⟩;rw[az hk];simp only[Dd,jW];exact⟨e,he,by rw[az hi]⟩
def GB(h:cn t cf 0)(hl:jS l){i v:Int}{n:Node}(hn:find t.ae i=some n)(hk:n.kind=1)(hv:0<=v):BG l t.ae t.ae n=v↔(∃d e,find t.ae d.au=some d/\d.kind=2/\e∈d.aM/\e.au=i/\Dh l t.ae d.au v)/\∀d e w,find t.ae d.au=some d->e∈d.aM->e.au=i->Dh l t.ae d.au w->w=v:=by
 have hni:=h.au hn;subst hni
 have isd:∀(d:Node)(e:ew),find t.ae d.au=some d->e∈d.aM->d.kind=2:=fun d e hd he=>by
  rcases h.kind _ _ hd with h1|h1
  ·rw[(h.file _ _ hd h1).1] at he; cases he
  ·exact h1
 have fnd:∀d,d∈t.ae->find t.ae d.au=some d:=fun d hd=>(ft h.jB.ju).2 ⟨hd,rfl⟩
 unfold BG
 rw[Xp (fun w hw=>by
  obtain⟨d,e,hd,hk,_,_,rfl⟩:=wQ.1 hw;exact(xz h hl (fnd d hd) hk).2) hv]
 constructor
 ·rintro⟨h1,h2⟩;obtain⟨d,e,hd,hk,he,hi,rfl⟩:=wQ.1 h1;refine⟨⟨d,e,fnd d hd,hk,he,hi,(xz h hl (fnd d hd) hk).1⟩,fun d' e' w hd' he' hi' hw=>?_⟩
  have hk':=isd d' e' hd' he';have:=h2 _ (wQ.2 ⟨d',e',(cg hd').1,hk',he',hi',rfl⟩);rw[<-this];exact h.Co hd' hk' hw (xz h hl hd' hk').1
 ·rintro⟨⟨d,e,hd,hk,he,hi,hD⟩,h2⟩;refine⟨wQ.2 ⟨d,e,(cg hd).1,hk,he,hi,h.Co hd hk hD (xz h hl hd hk).1⟩,fun w hw=>?_⟩
  obtain⟨d',e',hd',hk',he',hi',rfl⟩:=wQ.1 hw;exact h2 d' e' _ (fnd d' hd') he' hi' (xz h hl (fnd d' hd') hk').1
def Bn(h:cn t cf 0)(hl:jS l)(m:ry l t.ae):r8 l t.ae=t.ae.map fun n=>uN l t.ae n.au:=by
 rw[AA h];apply bW;intro n hn;have hf:=(ft h.jB.ju).2 ⟨hn,rfl⟩;have hL:=po h hl m hf;split
 ·rename_i hk;exact h.Co hf hk (xz h hl hf hk).1 (hL.dir n hf hk)
 ·rename_i hk;have hk1:n.kind=1:=(h.kind _ _ hf).resolve_right hk;obtain⟨d,e,q1,q2,q3,q4,q5⟩:=hL.file n hf hk1;rw[GB h hl hf hk1 (q5.lt h hl).1];refine⟨⟨d,e,q1,q2,q3,q4,q5⟩,fun d' e' w r1 r3 r4 r5=>?_⟩
  exact m.one d' e' d e n w _ r1 r3 q1 q3 (r4.trans q4.symm) (by rw[r4]; exact hf) hk1 r5 q5
def SZ(l:List Piece)(t:Tree):Bool:=(l.all fun p=>(sq t.ae p.aR).2==0&&(bD t.ae (sq t.ae p.aR).1).kind==2)&&(r8 l t.ae).all fun p => !decide (p<0)
def S0(h:cn t cf 0)(hl:jS l):SZ l t=true↔ry l t.ae:=by
 unfold SZ;rw[bm,bu,bu];have wk:∀s,sq t.ae s=eB t s:=I1 t;constructor
 ·rintro⟨h1,h2⟩;rw[AA h] at h2
  have h3:∀i n,find t.ae i=some n->n.kind=1->0<=BG l t.ae t.ae n:=fun i n hn hk=>by
   have:=h2 _ (bR.2 ⟨n,(cg hn).1,rfl⟩);rw[ak (by omega)] at this
   simpa using this
  refine⟨fun p hp=>?_,fun i n hn hk=>?_,fun d e d' e' n v w q1 q2 q3 q4 q5 q6 q7 q8 q9=>?_⟩
  ·have:=h1 p hp;rw[wk] at this;simp only[bm,dM] at this;obtain⟨L,g1,g2⟩:=tu.1 (fC rfl this.1:eB t p.aR=((eB t p.aR).1,0))
   have hn:∃n,find t.ae (eB t p.aR).1=some n:=by
    cases hf:find t.ae (eB t p.aR).1 with
    |none=>simp[bD,hf,Node.zero] at this
    |some n=>exact⟨n,rfl⟩
   obtain⟨n,hn⟩:=hn;refine⟨_,n,?_,hn,by simpa[bD,hn] using this.2⟩
   rw[vT,g1];exact pI.1 g2
  ·obtain⟨⟨d,e,g1,g2,g3,g4,_⟩,_⟩:=(GB h hl hn hk (h3 i n hn hk)).1 rfl;exact⟨d,e,g1,g2,g3,g4⟩
  ·have h0:=h3 _ n q6 q7;obtain⟨_,g⟩:=(GB h hl q6 q7 h0).1 rfl;rw[g d e v q1 q2 rfl q8,g d' e' w q3 q4 q5.symm q9]
 ·intro m;refine⟨fun p hp=>?_,fun x hx=>?_⟩
  ·obtain⟨z,n,g1,g2,g3⟩:=m.Cp p hp;have:eB t p.aR=(z,0):=tu.2 ⟨vT p,fC rfl (hl.ok p hp).1,pI.2 g1⟩;rw[wk,this];simp[bD,g2,g3]
  ·rw[Bn h hl m] at hx;obtain⟨n,hn,rfl⟩:=bR.1 hx;have hf:=(ft h.jB.ju).2 ⟨hn,rfl⟩;obtain⟨k,q⟩:=(po h hl m hf).dh h;have:=(q.lt h hl).1;simpa using this
end
abbrev Wt:=Tree×OQ×Int
def lQ(e:Int):OQ:=⟨e,0,0,0,0,[],[]⟩
def rM(t:Tree)(o:oS):Wt :=
 if (eB t o.aR).2 != 0 then (t,mV,(eB t o.aR).2)
 else (t,⟨0,(bD t.ae (eB t o.aR).1).au,(bD t.ae (eB t o.aR).1).kind,0,0,[],[]⟩,0)
def rP(t:Tree)(o:oS):Wt :=
 let v:=eB t o.aR
 let n:=bD t.ae v.1
 if v.2 != 0 then (t,mV,v.2) else
 (t,⟨0,n.au,n.kind,n.dj,T7 n,[],[]⟩,0)
def tM(t:Tree)(o:oS):Wt :=
 let v:=eB t o.aR
 let l:=pZ t (bD t.ae v.1).au o.n o.m
 if v.2 != 0 then (t,mV,v.2) else
 if l.2.2 != 0 then (t,mV,l.2.2) else
 (t,⟨0,0,0,l.2.1,0,l.1.map ew.name,[]⟩,0)
def uF(t:Tree)(o:oS):Wt :=
 let v:=k6 t o.aR
 let w:=nk t v.1 v.2.1 o.n
 if v.2.2 != 0 then (t,mV,v.2.2)
 else if w.2.2 != 0 then (t,mV,w.2.2)
 else (w.1,⟨0,w.2.1,o.n,0,0,[],[]⟩,0)
def tL(t:Tree)(o:oS):Wt :=
 let v:=eB t o.aR
 let n:=bD t.ae v.1
 let s:=k6 t o.rp
 let w:=BC t n.au s.1 s.2.1
 if v.2 != 0 then (t,mV,v.2) else
 if s.2.2 != 0 then (t,mV,s.2.2) else
 if w.2 != 0 then (t,mV,w.2) else
 (w.1,⟨0,n.au,0,0,0,[],[]⟩,0)
def nF(t:Tree)(o:oS):Wt :=
 let s:=k6 t o.aR
 let w:=vF t s.1 s.2.1
 if s.2.2 != 0 then (t,mV,s.2.2) else
 if w.2.2 != 0 then (t,mV,w.2.2) else
 (w.1,⟨0,w.2.1,0,0,0,[],[]⟩,0)
def lI(t:Tree)(o:oS):Wt :=
 let s:=k6 t o.aR
 let u:=k6 t o.rp
 let l:=dR t.ae s.1 s.2.1
 let w:=wa t s.1 s.2.1 u.1 u.2.1
 if s.2.2 != 0 then (t,mV,s.2.2) else
 if u.2.2 != 0 then (t,mV,u.2.2) else
 if w.2.2 != 0 then (t,mV,w.2.2) else
 (w.1,⟨0,l.1,0,0,0,[],[]⟩,0)
def eX(t:Tree)(o:oS):Wt :=
 if o.kind=1 then rM t o else if o.kind=2 then uF t o else if o.kind=3 then tL t o else if o.kind=4 then nF t o else if o.kind=5 then lI t o else if o.kind=6 then tM t o else rP t o
def ov(l:List Node)(t:Tree):Tree:=l.foldl (fun u n=>if n.kind==1&&n.dj==0 then (oN u n.au).1 else u) t
def fg(t:Tree):Tree:=ov t.ae t
def kB(l:List Piece)(s:Bytes):Nat:=l.countP fun p=>jJ s p.aR
def ub(l:List Piece)(t:Tree)(o:oS):Bool :=
 if o.kind=4 then (eB t o.aR).2==0&&((fy o.aR).2.2==0&&decide (0<kB l o.aR))
 else if o.kind=5 then (eB t o.aR).2==0&&((fy o.aR).2.2==0&&((fy o.rp).2.2==0&&decide (0<kB l o.aR+kB l o.rp)))
 else false
def pX(o:oS):Bool:=(decide (1<=o.kind)&&decide (o.kind<=7))&&(decide (0<=o.jw)&&decide (o.jw<16))
def mS(l:List Piece)(t:Tree)(o:oS):Tree×OQ :=
 if pX o=false then (t,lQ 1)
 else if ub l t o then (t,lQ 180)
 else if (eX t o).2.2 != 0 then (t,lQ (eX t o).2.2)
 else if (kV l (fg (eX t o).1).ae).2=false then (t,lQ 91)
 else (fg (eX t o).1,(eX t o).2.1)
def px(t:Tree)(o:oS):Tree×OQ:=if (eX t o).2.2 != 0 then (t,lQ (eX t o).2.2) else (fg (eX t o).1,(eX t o).2.1)
section
variable {t:Tree} {cf:Int->Nat} {l:List Piece}
def zF(h:cn t cf 0)(o:oS):∃dep',cn (eX t o).1 dep' 0:=by
 unfold eX;split
 ·unfold rM; split<;>exact⟨cf,h⟩
 split
 ·unfold uF;dsimp only;split
  ·exact⟨cf,h⟩
  split
  ·exact⟨cf,h⟩
  exact B7 h _ _ _ fun h=>h
 split
 ·unfold tL;dsimp only;split
  ·exact⟨cf,h⟩
  split
  ·exact⟨cf,h⟩
  split
  ·exact⟨cf,h⟩
  exact⟨cf,LZ h _ _ _ fun h=>h⟩
 split
 ·unfold nF;dsimp only;split
  ·exact⟨cf,h⟩
  split
  ·exact⟨cf,h⟩
  exact⟨cf,Gz h _ _⟩
 split
 ·unfold lI;dsimp only;split
  ·exact⟨cf,h⟩
  split
  ·exact⟨cf,h⟩
  split
  ·exact⟨cf,h⟩
  exact Ma h _ _ _ _ fun h=>h
 split
 ·unfold tM;dsimp only;split
  ·exact⟨cf,h⟩
  split<;>exact⟨cf,h⟩
 ·unfold rP;dsimp only;split<;>exact⟨cf,h⟩
def pz:∀(l:List Node)(t:Tree),cn t cf 0->cn (ov l t) cf 0
 | [],_,h=>h
 |n::l,t,h=>by
  unfold ov;rw[bA];refine pz l _ ?_;split
  ·exact Ec h _
  ·exact h
def zy(l:List Node)(t:Tree)(h:∀n,n∈l->n.kind=1->n.dj≠0):ov l t=t:=by
 induction l with
 |nil=>rfl
 |cons n l ih =>
  unfold ov
  rw[bA,ak (by
   simp only[bm,dM,not_and];exact h n aD)]
  exact ih fun m hm=>h m (aO _ hm)
def AR(h:cn t cf 0)(m:ry l t.ae):fg t=t :=
 zy _ _ fun n hn hk e=>by
  have hf:=(ft h.jB.ju).2 ⟨hn,rfl⟩;obtain⟨d,x,h1,_,h3,h4⟩:=m.kept _ _ hf hk;have hc:0<qN t.ae n.au:=qV.2 ⟨d,x,(cg h1).1,h3,h4⟩;have:=h.dj _ _ hf;split at this<;>omega
structure FI(l:List Piece)(t:Tree):Prop where
 rt:∃cf,cn t cf 0
 prt:jS l
 may:ry l t.ae
def FI.do(h:FI l t)(o:oS):FI l (mS l t o).1:=by
 obtain⟨cf,hg⟩:=h.rt;unfold mS;split
 ·exact h
 split
 ·exact h
 split
 ·exact h
 split
 ·exact h
 rename_i hm;obtain⟨dep',h1⟩:=zF hg o;have h2:=pz (eX t o).1.ae _ h1;exact⟨⟨dep',h2⟩,h.prt,(uQ h2 h.prt).1 (by simpa[fg] using hm)⟩
def FI.join(h:FI l t)(s:Bytes):FI (lN l s).1 t:=by
 obtain⟨cf,hg⟩:=h.rt;exact⟨⟨cf,hg⟩,Qw h.prt,S2 hg h.prt h.may⟩
def FI.move(h:FI l t)(s:Bytes)(to:Int):FI (mU l s to).1 t :=
 ⟨h.rt,S5 h.prt,Ip C6 h.may⟩
def pr(g:Int):List Piece:=[⟨[47],g,1⟩]
def Gi{g:Int}(h:mq g=true):jS (pr g):=by
 simp only[mq,bm,bt] at h;refine⟨⟨_,[],rfl,rfl⟩,by simp[pr],fun p hp=>?_,by simp[pr]⟩
 rw[pr,eO] at hp;subst hp;exact⟨rfl,h.1,h.2,by simp,by simp⟩
def EK(g:Int)(s:Bytes):df (pr g) s=0:=by simp[df,pr,qk]
def S8{g:Int}(h:cn t cf 0)(hk:∀i n,find t.ae i=some n->n.kind=1->∃d e,find t.ae d.au=some d/\d.kind=2/\e∈d.aM/\e.au=i):ry (pr g) t.ae:=by
 obtain⟨r,hr,hrk,_⟩:=h.root;refine⟨fun p hp=>?_,hk,fun d e d' e' n v w _ _ _ _ _ _ _ hv hw=>?_⟩
 ·rw[pr,eO] at hp;subst hp;exact⟨1,r,rfl,hr,hrk⟩
 ·obtain⟨_,_,rfl⟩:=hv;obtain⟨_,_,rfl⟩:=hw;rw[EK,EK]
end
section
variable {t t':Tree} {cf dep':Int->Nat} {l:List Piece}
def CX(h:cn t cf 0)(h':cn t' dep' 0)(hl:jS l)(m:ry l t.ae)(m':ry l t'.ae){D:Int->Prop}{g:Int}(hf:∀i,¬D i->find t'.ae i=find t.ae i)
  (hL:∀i v,¬D i->uD l t.ae i v->uD l t'.ae i v) (ha:∀i n,D i->find t.ae i=some n->kj l t.ae i≠g) (hb:∀i n,D i->find t'.ae i=some n->kj l t'.ae i≠g) :
  (t.ae.filter fun n=>kj l t.ae n.au==g)=t'.ae.filter fun n=>kj l t'.ae n.au==g:=by
 have ge:∀i n,¬D i->find t.ae i=some n->kj l t'.ae i=kj l t.ae i:=fun i n hD hn=>by
  have a:=hL i _ hD (po h hl m hn);have b:=po h' hl m' (i:=i) (by rw[hf i hD]; exact hn)
  rw[kj,kj,H9 h' m' a b]
 refine BJ (h.jB.ju.sublist oa) (h'.jB.ju.sublist oa) fun n=>?_
 simp only[ef,dM];constructor
 ·rintro⟨hn,hg⟩;have hfn:=(ft h.jB.ju).2 ⟨hn,rfl⟩;have hD:¬D n.au:=fun hD=>ha _ _ hD hfn hg
  have hfn':find t'.ae n.au=some n:=by rw[hf _ hD]; exact hfn
  exact⟨(cg hfn').1,by rw[ge _ _ hD hfn]; exact hg⟩
 ·rintro⟨hn,hg⟩;have hfn':=(ft h'.jB.ju).2 ⟨hn,rfl⟩;have hD:¬D n.au:=fun hD=>hb _ _ hD hfn' hg
  have hfn:find t.ae n.au=some n:=by rw[<-hf _ hD]; exact hfn'
  exact⟨(cg hfn).1,by rw[<-ge _ _ hD hfn]; exact hg⟩
def wm(l:List Piece)(s:Bytes)(g:Int):Bool:=(List.range ((bw s).1.length+1)).any fun i=>(mD l (df l (pq ((bw s).1.take i)))).group==g
def FQ{s:Bytes}{g:Int}(h:wm l s g=false){A B:List Bytes}(hs:(bw s).1=A++B):(mD l (df l (jP A))).group≠g:=by
 intro e
 have:wm l s g=true:=by
  unfold wm;rw[List.any_eq_true];refine⟨A.length,by rw[fx,hs]; simp; omega,?_⟩
  rw[hs,ra,List.take_left];simpa using e
 rw[this] at h; cases h
def tG(h:cn t cf 0)(hl:jS l)(m:ry l t.ae){i v:Int}{n:Node}(hn:find t.ae i=some n)(hv:uD l t.ae i v):kj l t.ae i=(mD l v.toNat).group:=by
 rw[kj,H9 h m (po h hl m hn) hv]
def xu(h:cn t cf 0){d:Node}{e:ew}{i v:Int}{n:Node}(hd:find t.ae d.au=some d)(he:e∈d.aM)(hi:e.au=i)(hn:find t.ae i=some n)(hk:n.kind=1)(hv:Dh l t.ae d.au v):uD l t.ae i v:=by
 have hdk:d.kind=2:=by
  rcases h.kind _ _ hd with h1|h1
  ·rw[(h.file _ _ hd h1).1] at he; cases he
  ·exact h1
 refine⟨fun n' hn' hk'=>?_,fun n' hn' _=>⟨d,e,hd,hdk,he,hi,hv⟩,⟨n,hn⟩⟩
 rw[hn] at hn'; cases hn';rw[hk] at hk'; cases hk'
def rf{i v:Int}{n:Node}(hn:find t.ae i=some n)(hk:n.kind=2)(hv:Dh l t.ae i v):uD l t.ae i v:=by
 refine⟨fun _ _ _=>hv,fun n' hn' hk'=>?_,⟨n,hn⟩⟩
 rw[hn] at hn'; cases hn';rw[hk] at hk'; cases hk'
def Ew(h:cn t cf 0)(h':cn t' dep' 0){D:Int->Prop}(hf:∀i,¬D i->find t'.ae i=find t.ae i)
  (hw:∀L i n,Way t.ae 1 L i->find t.ae i=some n->n.kind=2->(∃n',find t'.ae i=some n')->Way t'.ae 1 L i)
  (he:∀d e,find t.ae d.au=some d->e∈d.aM->¬D e.au->∃d',find t'.ae d.au=some d'/\d'.au=d.au/\e∈d'.aM):∀i v,¬D i->uD l t.ae i v->uD l t'.ae i v:=by
 intro i v hD hv;obtain⟨n,hn⟩:=hv.ex;have hn':find t'.ae i=some n:=by rw[hf i hD]; exact hn
 rcases h.kind _ _ hn with hk|hk
 ·obtain⟨d,e,h1,h2,h3,h4,L,h5,h6⟩:=hv.file n hn hk;obtain⟨d',g1,g2,g3⟩:=he d e h1 h3 (by rw[h4]; exact hD)
  refine xu h' (d:=d') (e:=e) (by rw[g2]; exact g1) g3 h4 hn' hk ⟨L,?_,h6⟩
  rw[g2];exact hw L _ d h5 h1 h2 ⟨d',g1⟩
 ·obtain⟨L,h5,h6⟩:=hv.dir n hn hk;exact rf hn' hk ⟨L,hw L _ n h5 hn hk ⟨n,hn'⟩,h6⟩
def GV(h:cn t cf 0){d kind:Int}{x:Bytes}(hok:(nk t d x kind).2.2=0):∃dN,find t.ae d=some dN/\dN.kind=2/\dB x=true/\dX dN.aM x=none/\d≠t.next/\find t.ae t.next=none /\
  ∀i,find (nk t d x kind).1.ae i=if i=d then some { dN with aM:=sQ dN.aM ⟨x,t.next,t.ai⟩ } else if i=t.next then some ⟨t.next,kind,1,[],[],if kind==2 then d else 0⟩ else find t.ae i:=by
 have iq:find t.ae t.next=none:=by
  cases hz:find t.ae t.next with
  |none=>rfl
  |some m=>have:=h.num _ _ hz; omega
 unfold nk at hok ⊢;split at hok
 ·cases hok
 rename_i c1;rw[ak c1];split at hok
 ·rename_i c2;simp only at hok;rw[hok] at c2; cases c2
 rename_i c2;rw[ak c2];split at hok
 ·cases hok
 rename_i c3;rw[ak c3];obtain⟨dN,hd,hk,hx,he,_⟩:=Cw (by simpa using c2)
 have hne:d≠t.next:=by
  rintro rfl; rw[iq] at hd; cases hd
 have hfd:find (eI t.ae ⟨t.next,kind,1,[],[],if kind==2 then d else 0⟩) d=some dN:=by
  rw[gJ h.jB.ju,ak hne]; exact hd
 refine⟨dN,hd,hk,hx,he,hne,iq,fun i=>?_⟩
 unfold gI;simp only[hfd,bz];rw[gJ (nG h.jB.ju _)];simp only[gJ h.jB.ju,h.au hd]
def I3(h:cn t cf 0){u:List Node}{d:Int}{dN:Node}{en:ew}(hd:find t.ae d=some dN)(hno:dX dN.aM en.name=none)(hu:∀i n,find t.ae i=some n->i≠d->find u i=some n)(hud:find u d=some { dN with aM:=sQ dN.aM en }) :
  ∀ {L:List Bytes} {i j:Int},Way t.ae i L j->Way u i L j
 | [],i,j,hw=>hw
 |s::L,i,j,⟨n,e,h1,h2,h3,h4,h5⟩=>by
  have ih:=I3 h hd hno hu hud h5
  by_cases hi:i=d
  ·subst hi;rw[hd] at h1; cases h1;have hne:s≠en.name:=by rintro rfl; rw[hno] at h4; cases h4
   exact⟨_,e,hud,h2,h3,by simp only; rw[vx (h.jB.aM _ (cg hd).1) hno,ak hne]; exact h4,ih⟩
  ·exact⟨n,e,hu i n h1 hi,h2,h3,h4,ih⟩
def MP(h:cn t cf 0)(hl:jS l)(m:ry l t.ae){d kind:Int}{x:Bytes}{P:List Bytes}{s:Bytes}{g:Int}(hs:bw s=(P++[x],0))(hw:Way t.ae 1 P d)(hok:(nk t d x kind).2.2=0)
  (h':cn (nk t d x kind).1 dep' 0) (m':ry l (nk t d x kind).1.ae) (hg:wm l s g=false) :
  (t.ae.filter fun n=>kj l t.ae n.au==g)=(nk t d x kind).1.ae.filter fun n=>kj l (nk t d x kind).1.ae n.au==g:=by
 obtain⟨dN,hd,hk,hx,he,hne,iq,hf⟩:=GV h hok;generalize (nk t d x kind).1=u at h' m' hf ⊢;have hdi:=h.au hd;have hud:find u.ae d=some { dN with aM:=sQ dN.aM ⟨x,t.next,t.ai⟩ }:=by rw[hf,az rfl]
 have LN:find u.ae t.next=some ⟨t.next,kind,1,[],[],if kind==2 then d else 0⟩:=by rw[hf,ak (dA hne),az rfl]
 have hasc:=h.jB.aM _ (cg hd).1
 have hwm:∀ {L i j},Way t.ae i L j->Way u.ae i L j:=fun {L i j}=>I3 h hd he (en:=⟨x,t.next,t.ai⟩) (fun i n hn hi=>by
  rw[hf,ak hi,ak (by rintro rfl; rw[iq] at hn; cases hn)]; exact hn) hud
 have n1:(mD l (df l (jP P))).group≠g:=FQ hg (A:=P) (B:=[x]) (by rw[hs])
 have n2:(mD l (df l (jP (P++[x])))).group≠g:=FQ hg (A:=P++[x]) (B:=[]) (by rw[hs]; simp)
 refine CX h h' hl m m' (D:=fun i=>i=d\/i=t.next) (fun i hD=>?_) (Ew h h' (D:=fun i=>i=d\/i=t.next) (fun i hD=>?_) (fun L i n hw _ _ _=>hwm hw) (fun d0 e0 h0 he0 hD=>?_)) (fun i n hD hn=>?_) (fun i n hD hn=>?_)
 ·simp only[kH] at hD;rw[hf,ak hD.1,ak hD.2]
 ·simp only[kH] at hD;rw[hf,ak hD.1,ak hD.2]
 ·by_cases hdd:d0.au=d
  ·rw[hdd] at h0;rw[hd] at h0; cases h0;exact⟨{ dN with aM:=sQ dN.aM ⟨x,t.next,t.ai⟩ },cW (congrArg (find u.ae) hdd) hud,rfl,(wN hasc (e:=⟨x,t.next,t.ai⟩) he).2 (.inr he0)⟩
  ·exact⟨d0,by rw[hf,ak hdd,ak (by rintro e; rw[e,iq] at h0; cases h0)]; exact h0,rfl,he0⟩
 ·rcases hD with rfl|rfl
  ·rw[tG h hl m hn (rf hd hk ⟨P,hw,rfl⟩)];simpa using n1
  ·rw[iq] at hn; cases hn
 ·rcases hD with rfl|rfl
  ·rw[tG h' hl m' hn (rf hud hk ⟨P,hwm hw,rfl⟩)];simpa using n1
  ·have hi':dX (sQ dN.aM ⟨x,t.next,t.ai⟩) x=some ⟨x,t.next,t.ai⟩:=by rw[vx hasc he,az rfl]
   rcases h'.kind _ _ LN with hk'|hk'
   ·rw[tG h' hl m' hn (xu h' (d:={ dN with aM:=sQ dN.aM ⟨x,t.next,t.ai⟩ }) (cW (congrArg (find u.ae) hdi) hud) (eu hi').1 rfl LN hk' (by show Dh l u.ae dN.au _; rw[hdi]; exact⟨P,hwm hw,rfl⟩))]
    simpa using n1
   ·rw[tG h' hl m' hn (rf LN hk' ⟨P++[x],ir.2 ⟨d,hwm hw,_,_,hud,hk,hx,hi',rfl⟩,rfl⟩)];simpa using n2
def oj:∀(r:List Node)(t:Tree),Rt t->∀i,find (ov r t).ae i=find t.ae i\/(find (ov r t).ae i=none/\∃n,find t.ae i=some n/\jv n=true)
 | [],_,_,_ => .inl rfl
 |k::r,t,h,i=>by
  unfold ov;rw[bA];split
  ·have hf:=z7 h k.au i;have ih:=oj r _ (h.free k.au) i
   by_cases hc:i=k.au/\∃n,find t.ae k.au=some n/\jv n=true
   ·rw[az hc] at hf;obtain⟨rfl,hn⟩:=hc;rw[hf] at ih;refine .inr ⟨?_,hn⟩;rcases ih with h1|⟨h1,_⟩<;>exact h1
   ·rw[ak hc] at hf;rwa[hf] at ih
  ·exact oj r t h i
def C4(h:cn t cf 0)(m:ry l t.ae){i:Int}{n:Node}(hn:find t.ae i=some n):jv n=false:=by
 cases ho:jv n with
 |false=>rfl
 |true =>
  simp only[jv,bm,dM] at ho;obtain⟨d,x,h1,_,h3,h4⟩:=m.kept _ _ hn ho.1;have hc:0<qN t.ae i:=qV.2 ⟨d,x,(cg h1).1,h3,h4⟩;have:=h.dj _ _ hn;split at this<;>omega
def Xo(h:cn t cf 0){d:Int}{x:Bytes}(hok:(vF t d x).2.2=0):∃dN e m,find t.ae d=some dN/\dN.kind=2/\dB x=true/\dX dN.aM x=some e/\find t.ae e.au=some m/\m.aM=[]/\e.au≠d/\(vF t d x).2.1=e.au /\
  ∀i,find (vF t d x).1.ae i=if i=e.au then xU m else if i=d then some { dN with aM:=fE dN.aM x } else find t.ae i:=by
 unfold vF at hok ⊢;split at hok
 ·rename_i c1;simp only at hok;rw[hok] at c1; cases c1
 rename_i c1;rw[ak c1];split at hok
 ·cases hok
 rename_i c2;rw[ak c2];obtain⟨dN,e,d1,d2,d3,d4,d5⟩:=look_ok (by simpa using c1)
 rw[d5] at c2 ⊢;obtain⟨_,_,_,_,m,hm,_⟩:=h.wB _ _ e d1 (eu d4).1;simp only[bD,hm,bz,bt] at c2;have hne:e.au≠d:=h.vw d1 (eu d4).1;refine⟨dN,e,m,d1,d2,d3,d4,hm,cq.1 (by omega),hne,rfl,fun i=>?_⟩
 have hl:=iT h.jB.ju d1 (s:=x);simp only;rw[pT (ll h.jB.ju d x) (n:=m) (by rw[hl,ak hne]; exact hm),hl]
def I2(h:cn t cf 0){u:List Node}{d:Int}{dN m:Node}{e:ew}{x:Bytes}(hd:find t.ae d=some dN)(he:dX dN.aM x=some e)(hm:find t.ae e.au=some m)(hme:m.aM=[])
  (hu:∀i n,find t.ae i=some n->n.kind=2->i≠d->i≠e.au->find u i=some n) (hud:find u d=some { dN with aM:=fE dN.aM x }) :
  ∀ {L:List Bytes} {i j:Int},Way t.ae i L j->j≠e.au->i≠e.au->Way u i L j
 | [],i,j,hw,_,_=>hw
 |s::L,i,j,⟨n,e1,h1,h2,h3,h4,h5⟩,hj,hi=>by
  have hne:e1.au≠e.au:=fun hc=>by
   cases L with
   |nil=>exact hj (h5.symm.trans hc)
   |cons b L =>
    obtain⟨n2,e2,b1,_,_,b4,_⟩:=h5;rw[hc,hm] at b1; cases b1;have:=(eu b4).1;rw[hme] at this; cases this
  have ih:=I2 h hd he hm hme hu hud h5 hj hne
  by_cases hid:i=d
  ·subst hid;rw[hd] at h1; cases h1;have hsx:s≠x:=by rintro rfl; rw[he] at h4; cases h4; exact hne rfl
   exact⟨_,e1,hud,h2,h3,by simp only; rw[pk hsx]; exact h4,ih⟩
  ·exact⟨n,e1,hu i n h1 h2 hid hi,h2,h3,h4,ih⟩
def Pf(h:cn t cf 0)(hl:jS l)(m:ry l t.ae){d:Int}{x:Bytes}{P:List Bytes}{s:Bytes}{g:Int}(hs:bw s=(P++[x],0))(hw:Way t.ae 1 P d)(hok:(vF t d x).2.2=0)
  (hu:cn (vF t d x).1 dep' 0) (m':ry l (fg (vF t d x).1).ae) (hg:wm l s g=false) :
  (t.ae.filter fun n=>kj l t.ae n.au==g)=(fg (vF t d x).1).ae.filter fun n=>kj l (fg (vF t d x).1).ae n.au==g:=by
 obtain⟨dN,e,mN,hd,hk,hx,he,hm,hme,hne,_,hf⟩:=Xo h hok;generalize (vF t d x).1=u0 at hu m' hf ⊢;have h':=pz u0.ae _ hu;have hsw:=oj u0.ae u0 ⟨_,hu⟩;unfold fg at m' ⊢;generalize ov u0.ae u0=u at h' m' hsw ⊢;have hdi:=h.au hd;have hasc:=h.jB.aM _ (cg hd).1;obtain⟨he1,he2⟩:=eu he
 have hfu:∀i,i≠d->i≠e.au->find u.ae i=find t.ae i:=fun i h1 h2=>by
  have:=hf i;rw[ak h2,ak h1] at this;rcases hsw i with hc|⟨hc,n,hn,ho⟩
  ·rw[hc,this]
  ·rw[this] at hn;rw[C4 h m hn] at ho; cases ho
 have hud:find u.ae d=some { dN with aM:=fE dN.aM x }:=by
  have:=hf d;rw[ak (dA hne),az rfl] at this;rcases hsw d with hc|⟨_,n,hn,ho⟩
  ·rw[hc,this]
  ·rw[this] at hn; cases hn;rw[yj (show({ dN with aM:=fE dN.aM x }:Node).kind=2 from hk)] at ho; cases ho
 have root:(1:Int)≠e.au:=fun hc=>by
  have:=(h.wB _ _ _ hd he1).2.2.1;exact this hc.symm
 have hwm:∀ {L j},Way t.ae 1 L j->j≠e.au->Way u.ae 1 L j:=fun {L j} hw hj=>I2 h hd he hm hme (fun i n hn _ h1 h2=>by rw[hfu i h1 h2]; exact hn) hud hw hj root
 have n1:(mD l (df l (jP P))).group≠g:=FQ hg (A:=P) (B:=[x]) (by rw[hs])
 have n2:(mD l (df l (jP (P++[x])))).group≠g:=FQ hg (A:=P++[x]) (B:=[]) (by rw[hs]; simp)
 have hDd:Dh l t.ae d (df l (jP P)):=⟨P,hw,rfl⟩
 have pair:∀d2 e2,find u.ae d2.au=some d2->e2∈d2.aM->e2.au=e.au->mN.kind=1->∃d3,find t.ae d3.au=some d3/\d3.au=d2.au/\e2∈d3.aM:=fun d2 e2 h2 he2 hi2 hmk=>by
  by_cases hdd:d2.au=d
  ·rw[hdd,hud] at h2; injection h2 with h2
   refine⟨dN,by rw[hdi]; exact hd,by rw[hdi,hdd],?_⟩
   rw[<-h2] at he2;exact(Ap.1 he2).1
  ·by_cases hee:d2.au=e.au
   ·exfalso;rw[hee] at h2;rcases hsw e.au with hc|⟨hc,_⟩
    ·rw[hc,hf,az rfl,xU,ak (by simp[hmk])] at h2
     injection h2 with h2
     rw[<-h2] at he2;simp only[hme] at he2;cases he2
    ·rw[hc] at h2; cases h2
   ·rw[hfu _ hdd hee] at h2;exact⟨d2,h2,rfl,he2⟩
 refine CX h h' hl m m' (D:=fun i=>i=d\/i=e.au) (fun i hD=>?_) (Ew h h' (D:=fun i=>i=d\/i=e.au) (fun i hD=>?_) (fun L i n hw hn hk2 hn'=>?_) (fun d0 e0 h0 he0 hD=>?_)) (fun i n hD hn=>?_) (fun i n hD hn=>?_)
 ·simp only[kH] at hD;exact hfu i hD.1 hD.2
 ·simp only[kH] at hD;exact hfu i hD.1 hD.2
 ·refine hwm hw ?_;rintro rfl;rw[hm] at hn; cases hn;obtain⟨n',hn'⟩:=hn';rcases hsw e.au with hc|⟨hc,_⟩
  ·rw[hc,hf,az rfl,xU,az (by simp[hk2])] at hn'; cases hn'
  ·rw[hc] at hn'; cases hn'
 ·simp only[kH] at hD
  by_cases hdd:d0.au=d
  ·rw[hdd,hd] at h0; cases h0;refine⟨{ dN with aM:=fE dN.aM x },cW (congrArg (find u.ae) hdd) hud,rfl,Ap.2 ⟨he0,fun hc=>?_⟩⟩
   have:=(ny hasc).2 ⟨he0,hc⟩;rw[he] at this; cases this;exact hD.2 rfl
  ·by_cases hee:d0.au=e.au
   ·rw[hee,hm] at h0; cases h0;rw[hme] at he0; cases he0
   ·exact⟨d0,by rw[hfu _ hdd hee]; exact h0,rfl,he0⟩
 ·rcases hD with rfl|rfl
  ·rw[tG h hl m hn (rf hd hk hDd)];simpa using n1
  ·rcases h.kind _ _ hm with hmk|hmk
   ·rw[tG h hl m hn (xu h (d:=dN) (by rw[hdi]; exact hd) he1 rfl hm hmk (by rw[hdi]; exact hDd))]
    simpa using n1
   ·rw[tG h hl m hn (rf hm hmk ⟨P++[x],ir.2 ⟨d,hw,_,_,hd,hk,hx,he,rfl⟩,rfl⟩)];simpa using n2
 ·rcases hD with rfl|rfl
  ·rw[tG h' hl m' hn (rf hud hk ⟨P,hwm hw (dA hne),rfl⟩)];simpa using n1
  ·have hmk:mN.kind=1:=by
    rcases h.kind _ _ hm with hmk|hmk
    ·exact hmk
    ·exfalso;rcases hsw e.au with hc|⟨hc,_⟩
     ·rw[hc,hf,az rfl,xU,az (by simp[hmk])] at hn; cases hn
     ·rw[hc] at hn; cases hn
   have hnk:n.kind=1:=by
    rcases hsw e.au with hc|⟨hc,_⟩
    ·rw[hc,hf,az rfl,xU,ak (by simp[hmk])] at hn
     injection hn with hn
     rw[<-hn]; exact hmk
    ·rw[hc] at hn; cases hn
   obtain⟨d2,e2,q1,q2,q3,q4⟩:=m'.kept _ _ hn hnk;obtain⟨d3,r1,r2,r3⟩:=pair d2 e2 q1 q3 q4 hmk
   have hk3:d3.kind=2:=by
    rcases h.kind _ _ r1 with h1|h1
    ·rw[(h.file _ _ r1 h1).1] at r3; cases r3
    ·exact h1
   obtain⟨L,hL,_⟩:=h.DA (cf d3.au) _ d3 r1 hk3 rfl
   have hne3:d3.au≠e.au:=fun hc=>by
    rw[hc,hm] at r1; cases r1;rw[hme] at r3; cases r3
   have e0:=m.one d3 e2 dN e _ _ _ r1 r3 (by rw[hdi]; exact hd) he1 q4 (by rw[q4]; exact hm) hmk ⟨L,hL,rfl⟩ (by rw[hdi]; exact hDd)
   rw[tG h' hl m' hn (xu h' q1 q3 q4 hn hnk (by rw[<-r2]; exact⟨L,hwm hL hne3,rfl⟩)),e0]
   simpa using n1
end
section
variable {t t':Tree} {cf dep':Int->Nat} {l:List Piece}
def DU(h:cn t cf 0){x:Int}{nx:Node}(hx:find t.ae x=some nx)(hxk:nx.kind=2):∀(c:Nat)(i:Int)(n:Node),cf i=c->find t.ae i=some n->n.kind=2->iR t.ae i x=true->∃B,Way t.ae x B i:=by
 intro c;induction c with
 |zero =>
  intro i n hc hi hk hb
  by_cases h1:i=1
  ·subst h1
   by_cases hx1:x=1
   ·subst hx1; exact⟨[],rfl⟩
   ·rw[cn.yc hx1] at hb; cases hb
  ·have:=(h.sy _ _ hi hk h1).1; omega
 |succ c ih =>
  intro i n hc hi hk hb
  by_cases hix:i=x
  ·subst hix; exact⟨[],rfl⟩
  ·have h1:i≠1:=by rintro rfl; rw[h.y9] at hc; cases hc
   rw[h.yU hi hk h1 hix] at hb;obtain⟨hd,p,hp,hpk⟩:=h.sy _ _ hi hk h1;obtain⟨B,hB⟩:=ih n.up p (by omega) hp hpk hb
   obtain⟨p',e,hp',_,he,hei⟩:=h.named hi hk h1 (by have:=(h.num _ _ hi).1; omega)
   rw[hp] at hp'; cases hp';exact⟨B++[e.name],ir.2 ⟨n.up,hB,p,e,hp,hpk,(h.wB _ _ _ hp he).2.2.2.1,(ny (h.jB.aM _ (cg hp).1)).2 ⟨he,rfl⟩,by simpa[Way] using hei⟩⟩
def G8{s:Bytes}(h:kB l s=0):∀p,p∈l->jJ s p.aR=false:=fun p hp=>by
 have:=List.countP_eq_zero.1 h p hp;simpa using this
def J9(hl:jS l){s:Bytes}{A:List Bytes}(hs:bw s=(A,0))(hb:kB l s=0):∀(k:Nat)(B:List Bytes),B.length=k->(∀y,y∈A++B->dB y=true)->(A++B).length<=12->df l (jP (A++B))=df l (jP A):=by
 intro k;induction k with
 |zero =>
  intro B hB _ _;rw[cm hB,bV]
 |succ k ih =>
  intro B hB hn h12;rcases eF B with rfl|⟨C,y,rfl⟩
  ·cases hB
  ·rw[eZ] at *;rw[<-cZ] at hn h12 ⊢;rw[hl.LL hn h12 fun p hp e=>?_,ih C (by simp at hB; omega) (fun z hz=>hn z (eN _ hz)) (by simp at h12 ⊢; omega)]
   have:=G8 hb p hp;rw[e] at this
   have h2:jJ s (jP (A++C++[y]))=true:=by
    rw[mY,hs,kb hn h12];exact⟨rfl,rfl,by rw[cZ]; exact jX _ _⟩
   rw[this] at h2; cases h2
def Fl(h:Rt t){r:List Node}:∀ {L:List Bytes} {i j:Int},Way t.ae i L j->Way (ov r t).ae i L j
 | [],_,_,hw=>hw
 |_::_,i,_,⟨d,e,h1,h2,h3,h4,h5⟩=>by
  refine⟨d,e,?_,h2,h3,h4,Fl h h5⟩;rcases oj r t h i with hc|⟨_,n,hn,ho⟩
  ·rw[hc]; exact h1
  ·rw[h1] at hn; cases hn;rw[yj h2] at ho; cases ho
def afM(hf:FI l t){o:oS}(hk:o.kind=5)(ha:(mS l t o).2.err=0){x:Int}(hx:eB t o.aR=(x,0)){nx:Node}(hnx:find t.ae x=some nx)(hnk:nx.kind=2) :
  (mS l t o).2.au=x/\∀i n n',find t.ae i=some n->n.kind=2->iR t.ae i x=true->find (mS l t o).1.ae i=some n'->kj l (mS l t o).1.ae i=(mD l (df l o.rp)).group:=by
 obtain⟨cf,h⟩:=hf.rt;have hd:=FI.do hf o
 unfold mS at ha hd ⊢;split at ha
 ·cases ha
 rename_i c1;rw[ak c1] at hd ⊢;split at ha
 ·cases ha
 rename_i c2;rw[ak c2] at hd ⊢;split at ha
 ·rename_i c3;simp only[lQ] at ha;rw[ha] at c3; cases c3
 rename_i c3;rw[ak c3] at hd ⊢;split at ha
 ·cases ha
 rename_i c4;rw[ak c4] at hd ⊢
 have hwk:eX t o=lI t o:=by
  unfold eX;rw[ak (by omega),ak (by omega),ak (by omega),ak (by omega),az hk]
 rw[hwk] at c3 hd ⊢;unfold lI at c3 hd ⊢;dsimp only at c3 hd ⊢;split at c3
 ·rename_i c5; exact absurd c5 (by simpa using c3)
 rename_i c5;rw[ak c5] at hd ⊢;split at c3
 ·rename_i c6; exact absurd c6 (by simpa using c3)
 rename_i c6;rw[ak c6] at hd ⊢;split at c3
 ·rename_i c7; exact absurd c7 (by simpa using c3)
 rename_i c7;rw[ak c7] at hd ⊢;obtain⟨P,s,f,p1,p2,p3⟩:=vh (by simpa using c5)
 obtain⟨T,nm,to,q1,q2,q3⟩:=vh (by simpa using c6)
 rw[p3,q3] at c7 hd ⊢;simp only at c7 hd ⊢;have wP:=pI.1 p2;have wT:=pI.1 q2;obtain⟨L,r1,r2⟩:=tu.1 hx;rw[p1] at r1; injection r1 with r1 _; subst r1
 have wx:=pI.1 r2
 have lp:(fy o.aR).2.2=0:=by
  unfold k6 at c5;split at c5
  ·rename_i hc; exact absurd hc (by simpa using c5)
  ·rename_i hc; simpa using hc
 have lt:(fy o.rp).2.2=0:=by
  unfold k6 at c6;split at c6
  ·rename_i hc; exact absurd hc (by simpa using c6)
  ·rename_i hc; simpa using hc
 have hbz:kB l o.rp=0:=by
  unfold ub at c2;rw[ak (by omega),az hk,hx,lp,lt] at c2
  simp at c2;omega
 obtain⟨t1,t2⟩:=lx o.rp;rw[q1] at t1 t2;have hj:o.rp=jP (T++[nm]):=uT q1;obtain⟨dep',hd'⟩:=hd.rt
 have last:∀(u:Tree),FI l u->∀B i n',Way u.ae 1 (T++[nm]++B) i->find u.ae i=some n'->n'.kind=2->kj l u.ae i=(mD l (df l o.rp)).group:=fun u hu B i n' hw hn hk'=>by
  obtain⟨du,gu⟩:=hu.rt;rw[tG gu hu.prt hu.may hn (rf hn hk' ⟨_,hw,rfl⟩)];have:=J9 hu.prt q1 hbz B.length B rfl (kO hw) (gu.pJ hw);rw[this,<-hj]; simp
 rcases EI h f s to nm with ⟨_,_,g3⟩|⟨g1,dF,dT,e,e2,a1,a2,a3,a4,a5,b1,b2,b3,b4,b5⟩|⟨dF,dT,m,e,k,k1,k2,k3⟩
 ·exact absurd g3 (by simpa using c7)
 ·have hex:x=e.au:=by
   have w2:Way t.ae 1 (P++[s]) e.au:=ir.2 ⟨f,wP,dF,e,a1,a2,a3,a4,rfl⟩;exact xF wx w2
  rw[g1] at hd ⊢;simp only at hd ⊢;have hsw:fg t=t:=AR h hf.may;rw[hsw];refine⟨by rw[a5,hex],fun i n n' hi hk' hb hn'=>?_⟩
  have w3:Way t.ae 1 (T++[nm]) x:=by rw[hex,<-b5]; exact ir.2 ⟨to,wT,dT,e2,b1,b2,b3,b4,rfl⟩
  obtain⟨B,hB⟩:=DU h hnx hnk _ i n rfl hi hk' hb;exact last t hf B i n (ir.2 ⟨x,w3,hB⟩) hi hk'
 ·have hex:x=e.au:=by
   have w2:Way t.ae 1 (P++[s]) e.au:=ir.2 ⟨f,wP,dF,e,k.hF,k.kF,k1,k.he,rfl⟩;exact xF wx w2
  rw[k3] at hd hd' ⊢;simp only at hd hd' ⊢;refine⟨by rw[k2,hex],fun i n n' hi hk' hb hn'=>?_⟩
  subst hex;rw[k.hm] at hnx; cases hnx;obtain⟨du,gu⟩:=h.mv (fun h=>h) k
  obtain⟨B,hB⟩:=DU h k.hm hnk _ i n rfl hi hk' hb;obtain⟨w4,z1,z2,z3⟩:=k.adx h hnk hB;have w5:=k.ady h wT;obtain⟨dT',eT,g1,g2,g3,g4,g5⟩:=look_ok (show((dR (nU t f s to nm e.au (dY dT.aM nm)).ae to nm).2 != 0)=false by rw[k.L3 h]; rfl)
  have g6:eT.au=e.au:=by
   have:=k.L3 h;rw[g5] at this; injection this
  have w6:Way (nU t f s to nm e.au (dY dT.aM nm)).ae 1 (T++[nm]++B) i:=ir.2 ⟨e.au,ir.2 ⟨to,w5,dT',eT,g1,g2,g3,g4,g6⟩,w4⟩;have w7:Way (fg (nU t f s to nm e.au (dY dT.aM nm))).ae 1 (T++[nm]++B) i:=Fl ⟨_,gu⟩ w6;refine last _ hd B i n' w7 hn' ?_;have hmv:=yp h k i;rw[ak z2,ak z1] at hmv;rcases oj (nU t f s to nm e.au (dY dT.aM nm)).ae _ ⟨_,gu⟩ i with hc|⟨hc,_⟩
  ·unfold fg at hn';rw[hc,hmv] at hn';rw[az hnk,ak z3] at hn';split at hn'
   ·injection hn' with hn'
    rw[<-hn']; exact hnk
   ·rw[hi] at hn';injection hn' with hn'
    rw[<-hn']; exact hk'
  ·unfold fg at hn';rw[hc] at hn'; cases hn'
end
structure kc where
 kind:UInt8
 op:oS
 aR:Bytes
 group:Int
def eE(s:kc):List ag:=mF s.kind::(dK s.op++[.str s.aR,.int .i64 s.group])
def qh(s:kc):ag := .agg (eE s)
abbrev oM(l:List kc):ag := .slice .sh (l.map qh)
def sx(l:List Piece)(t:Tree)(s:Bytes)(g:Int):List Piece×Int :=
 if (eB t s).2 != 0 then (l,(eB t s).2)
 else if (bD t.ae (eB t s).1).kind != 2 then (l,73)
 else if (uK l s g).2 != 0 then (l,(uK l s g).2)
 else if (kV (uK l s g).1 t.ae).2=false then (l,91)
 else ((uK l s g).1,0)
def stepT(x:List Piece×Tree)(s:kc):(List Piece×Tree)×OQ :=
 match s.kind.toNat % 5 with
 |1|2=>(((sx x.1 x.2 s.aR s.group).1,x.2),lQ (sx x.1 x.2 s.aR s.group).2)
 |3=>(((lN x.1 s.aR).1,x.2),lQ (lN x.1 s.aR).2)
 |4=>(((mU x.1 s.aR s.group).1,x.2),lQ (mU x.1 s.aR s.group).2)
 |_=>((x.1,(mS x.1 x.2 s.op).1),(mS x.1 x.2 s.op).2)
def uj(g:Int)(l:List kc):List Piece×Tree:=l.foldl (fun x s=>(stepT x s).1) (pr g,oO)
def cX(x:List Piece×Tree):vX:=bl x.1 x.2
section
variable {t:Tree} {cf:Int->Nat} {l:List Piece}
theorem FI.cut(h:FI l t)(s:Bytes)(g:Int):FI (sx l t s g).1 t:=by
 obtain⟨cf,hg⟩:=h.rt;unfold sx;split
 ·exact h
 split
 ·exact h
 split
 ·exact h
 split
 ·exact h
 rename_i hm;exact⟨⟨cf,hg⟩,BK h.prt,(uQ hg (BK h.prt)).1 (by simpa using hm)⟩
def FI.step{x:List Piece×Tree}(h:FI x.1 x.2)(s:kc):FI (stepT x s).1.1 (stepT x s).1.2:=by
 unfold stepT;split
 ·exact h.cut _ _
 ·exact h.cut _ _
 ·exact h.join _
 ·exact h.move _ _
 ·exact h.do _
def FI.new{g:Int}(hg:mq g=true):FI (pr g) oO:=by
 refine⟨⟨_,It⟩,Gi hg,S8 It fun i n hi hk=>?_⟩
 simp only[oO,find,List.find?_cons,List.find?_nil] at hi;split at hi
 ·cases hi; cases hk
 ·cases hi
def FI.steps:∀(r:List kc)(x:List Piece×Tree),FI x.1 x.2->FI (r.foldl (fun x s=>(stepT x s).1) x).1 (r.foldl (fun x s=>(stepT x s).1) x).2
 | [],_,h=>h
 |s::r,_,h=>FI.steps r _ (h.step s)
def FI.made{g:Int}(hg:mq g=true)(r:List kc):FI (uj g r).1 (uj g r).2:=FI.steps r _ (FI.new hg)
def SS{k:Node->Int}{ae:List Node}{c:Int}(h0:0<=c)(h8:c<8)(hk:∀n,n∈ae->k n=c)(hne:ae≠[]):qm k ae=[⟨c,ae⟩]:=by
 have hf:∀g:Nat,(ae.filter fun n=>k n==(g:Int))=if (g:Int)=c then ae else []:=fun g=>by
  split
  ·rename_i hg;exact gn.2 fun n hn=>by simp[hk n hn,hg]
  ·rename_i hg;exact List.filter_eq_nil_iff.2 fun n hn=>by simp[hk n hn,dA hg]
 unfold qm;simp only[hf];obtain⟨n,rfl⟩:∃n:Nat,c=n:=⟨c.toNat,by omega⟩
 have hn:n<8:=by omega
 have:n=0\/n=1\/n=2\/n=3\/n=4\/n=5\/n=6\/n=7:=by omega
 have he:ae.isEmpty=false:=by cases ae with
  |nil=>exact absurd rfl hne
  |cons a r=>rfl
 rcases this with rfl|rfl|rfl|rfl|rfl|rfl|rfl|rfl<;>simp[List.range,List.range.loop,hne]
def FI.alone(h:FI l t){p:Piece}(hl:l=[p]):(bl l t).eh=[⟨p.group,t.ae⟩]:=by
 obtain⟨cf,hg⟩:=h.rt;have hp:=h.prt.ok p (by rw[hl]; simp)
 refine SS hp.2.1 hp.2.2.1 (fun n hn=>?_) (fun e=>?_)
 ·have hf:=(ft hg.jB.ju).2 ⟨hn,rfl⟩;obtain⟨k,q⟩:=(po hg h.prt h.may hf).dh hg;have h2:=q.lt hg h.prt;rw[hl] at h2;have:(uN l t.ae n.au).toNat=0:=by rw[hl]; simp at h2; omega
  rw[kj,this,hl]; rfl
 ·obtain⟨r,hr,_⟩:=hg.root;rw[e] at hr; cases hr
def wO{k:Node->Int}{ae:List Node}{x:qu}(hx:x∈qm k ae):x.ae=(ae.filter fun n=>k n==x.group)/\x.ae≠[]/\0<=x.group/\x.group<8:=by
 simp only[qm,jW] at hx;obtain⟨g,hg,h⟩:=hx;split at h
 ·cases h
 ·rename_i he;injection h with h
  subst h;refine⟨rfl,fun e=>he (by simp only at e; rw[e]; rfl),by simp,?_⟩
  have:=fx.1 hg;simp only; omega
def SR{k:Node->Int}{ae:List Node}{g:Int}(h0:0<=g)(h8:g<8)(hne:(ae.filter fun n=>k n==g)≠[]):(⟨g,ae.filter fun n=>k n==g⟩:qu)∈qm k ae:=by
 simp only[qm,jW];refine⟨g.toNat,by rw[fx]; omega,?_⟩
 have:((g.toNat:Nat):Int)=g:=by omega
 rw[this,ak];intro e;exact hne (List.isEmpty_iff.1 e)
def alone(h:FI l t){o:oS}(hk:o.kind≠3/\o.kind≠5){x:qu}(hx:x∈(bl l t).eh)(ha:wm l o.aR x.group=false):∃y,y∈(bl l (mS l t o).1).eh/\y.group=x.group/\y.ae=x.ae:=by
 obtain⟨cf,hg⟩:=h.rt;obtain⟨h1,h2,h3,h4⟩:=wO hx;have hd:=h.do o
 have fin:∀t',(mS l t o).1=t'->(t.ae.filter fun n=>kj l t.ae n.au==x.group)=(t'.ae.filter fun n=>kj l t'.ae n.au==x.group)->∃y,y∈(bl l (mS l t o).1).eh/\y.group=x.group/\y.ae=x.ae:=fun t' e hs=>by
  rw[e];exact⟨_,SR h3 h4 (by rw[<-hs,<-h1]; exact h2),rfl,by rw[h1]; exact hs.symm⟩
 unfold mS at hd fin ⊢;split at hd
 ·rename_i c1;rw[az c1] at fin ⊢;exact fin t rfl rfl
 rename_i c1;rw[ak c1] at fin ⊢;split at hd
 ·rename_i c2;rw[az c2] at fin ⊢;exact fin t rfl rfl
 rename_i c2;rw[ak c2] at fin ⊢;split at hd
 ·rename_i c3;rw[az c3] at fin ⊢;exact fin t rfl rfl
 rename_i c3;rw[ak c3] at fin ⊢;split at hd
 ·rename_i c4;rw[az c4] at fin ⊢;exact fin t rfl rfl
 rename_i c4;rw[ak c4] at fin ⊢;refine fin _ rfl ?_;have same:fg t=t:=AR hg h.may
 by_cases k2:o.kind=2
 ·have hw:eX t o=uF t o:=by unfold eX; rw[ak (by omega),az k2]
  rw[hw] at c3 hd ⊢;unfold uF at c3 hd ⊢;dsimp only at c3 hd ⊢;split at c3
  ·rename_i c5; exact absurd c5 (by simpa using c3)
  rename_i c5;rw[ak c5] at hd ⊢;split at c3
  ·rename_i c6; exact absurd c6 (by simpa using c3)
  rename_i c6;rw[ak c6] at hd ⊢;obtain⟨P,s,f,p1,p2,p3⟩:=vh (by simpa using c5)
  rw[p3] at c6 hd ⊢;simp only at c6 hd ⊢;have hok:(nk t f s o.n).2.2=0:=by simpa using c6
  obtain⟨dep',h'⟩:=B7 hg f s o.n fun h=>h
  obtain⟨dN,hdN,hdk,hx',he,hne,iq,hf⟩:=GV hg hok
  have hsw:fg (nk t f s o.n).1=(nk t f s o.n).1:=by
   refine zy _ _ fun n hn hk1 e0=>?_
   have hfn:=(ft h'.jB.ju).2 ⟨hn,rfl⟩;rw[hf] at hfn;split at hfn
   ·injection hfn with hfn
    rw[<-hfn] at hk1;simp only at hk1; omega
   ·split at hfn
    ·injection hfn with hfn
     rw[<-hfn] at e0; cases e0
    ·have:=C4 hg h.may hfn;simp[jv,hk1,e0] at this
  rw[hsw] at hd ⊢;exact MP hg h.prt h.may p1 (pI.1 p2) hok h' hd.may ha
 by_cases k4:o.kind=4
 ·have hw:eX t o=nF t o:=by unfold eX; rw[ak (by omega),ak (by omega),ak (by omega),az k4]
  rw[hw] at c3 hd ⊢;unfold nF at c3 hd ⊢;dsimp only at c3 hd ⊢;split at c3
  ·rename_i c5; exact absurd c5 (by simpa using c3)
  rename_i c5;rw[ak c5] at hd ⊢;split at c3
  ·rename_i c6; exact absurd c6 (by simpa using c3)
  rename_i c6;rw[ak c6] at hd ⊢;obtain⟨P,s,f,p1,p2,p3⟩:=vh (by simpa using c5)
  rw[p3] at c6 hd ⊢;simp only at c6 hd ⊢;exact Pf hg h.prt h.may p1 (pI.1 p2) (by simpa using c6) (Gz hg f s) hd.may ha
 ·have hw:(eX t o).1=t:=by
   unfold eX;split
   ·unfold rM; split<;>rfl
   rw[ak hk.1,ak hk.2];split
   ·unfold tM;dsimp only;split
    ·rfl
    split<;>rfl
   ·unfold rP;dsimp only;split<;>rfl
  rw[hw,same]
end
section
attribute [local irreducible] fP fi kD gK dp kr aq aL ct bI
def afD(z:Int):aq cY 246 [.slice .sh [],.func 219 [.ptr 0 0]] [.cells [.int .i64 z]]=some (.int .i64 (-1),[.cells [.int .i64 z]]):=by
 have h00:decide ((0:Int)<0)=false:=rfl;have hz:((0:Nat):Int)=0:=rfl;refine aI ?_;simp only[Qi,FL,hz,EN,seval];rw[bX];simp only[FL,h00,EN,seval]
end
def ahd(z:Int):aL (aq cY) 246 [.slice .sh [],.func 219 [.ptr 0 0]] [.cells [.int .i64 z]]=some (.int .i64 (-1),[.cells [.int .i64 z]]) :=
 lL (ids:=[0]) rfl rfl (show ke [.cells [.int .i64 z]] (iC [0]) [0]=some [.cells [.int .i64 z]] from rfl) rfl rfl (afD z) rfl rfl rfl rfl rfl
section
attribute [local irreducible] fP fi kD gK dp kr aq aL ct bI
def afC(z:Int):aq cY 217 [.slice .sh [],.func 219 [.ptr 0 0]] [.cells [.int .i64 z]]=some (.slice .sh [],[.cells [.int .i64 z]]):=by
 have h11:((-1:Int) == -1)=true:=rfl;refine aI ?_;simp only[LD,FF,ahd,h11,EN,seval]
end
def ag6(z:Int)(b0 b2 b3:cA):aL (aq cY) 217 [.slice .sh [],.func 219 [.ptr 1 0]] [b0,.cells [.int .i64 z],b2,b3]=some (.slice .sh [],[b0,.cells [.int .i64 z],b2,b3]) :=
 lL (ids:=[1]) rfl rfl (show ke [b0,.cells [.int .i64 z],b2,b3] (iC [1]) [1]=some [.cells [.int .i64 z]] from rfl) rfl rfl (afC z) rfl rfl rfl rfl rfl
def Zh(b0 b2 b3:cA)(xs:List ag)(z:Int):ke [b0,.cells [.int .i64 z],b2,b3,.arr 3 0 xs] (iC [4,1]) [4,1]=some [.arr 3 0 xs,.cells [.int .i64 z]]:=rfl
def als(xs:List ew)(z:Int)(hn:xs.length<=100000)(h0:xs≠[])(hk:je z xs≠[])(b0 b2 b3:cA):aL (aq cY) 217 [.dg 4 0 3 0 xs.length,.func 219 [.ptr 1 0]] [b0,.cells [.int .i64 z],b2,b3,.arr 3 0 (xs.map gh)] =
  some (.dg 4 0 3 0 (je z xs).length,[b0,.cells [.int .i64 z],b2,b3,.arr 3 0 ((je z xs++List.replicate (xs.length-(je z xs).length) yM).map gh)]):=by
 have h:=afB xs z hn h0;have hl:(je z xs).length≠0:=fun hh=>hk (cq.1 hh)
 have hr:Gv (je z xs).length = .dg 0 0 3 0 (je z xs).length:=by simp[Gv,hl]
 rw[hr] at h;exact lL (ids:=[4,1]) rfl rfl (Zh ..) rfl rfl h rfl rfl rfl rfl rfl
def ag7(xs:List ew)(z:Int)(hn:xs.length<=100000)(h0:xs≠[])(hk:je z xs=[])(b0 b2 b3:cA):aL (aq cY) 217 [.dg 4 0 3 0 xs.length,.func 219 [.ptr 1 0]] [b0,.cells [.int .i64 z],b2,b3,.arr 3 0 (xs.map gh)] =
  some (.slice .sh [],[b0,.cells [.int .i64 z],b2,b3,.arr 3 0 ((List.replicate xs.length yM).map gh)]):=by
 have h:=afB xs z hn h0;have hr:Gv (je z xs).length = .slice .sh []:=by simp[Gv,hk]
 rw[hr,hk] at h;simp only[aX,aG,bU] at h;exact lL (ids:=[4,1]) rfl rfl (Zh ..) rfl rfl h rfl rfl rfl rfl rfl
section
attribute [local irreducible] fP fi kD gK dp kr aq aL ct bI
end
section
def alN(n:ew):tJ 2 (gh n)=n.ai:=rfl
def HI(x:ew):∀l:List ew,CP 2 (gh x) (l.map gh)=(vS x l).map gh
 | []=>rfl
 |y::r=>by
  simp only[aV,CP,vS,alN]
  by_cases h:x.ai<y.ai
  ·simp only[h,aE,aV]
  ·simp only[h,aw,aV,HI x r]
def E2:∀l:List ew,rq 2 (l.map gh)=(mO l).map gh
 | []=>rfl
 |x::r=>by simp only[aV,rq,mO,E2 r,HI]
def Ek(x:ew):∀l,(vS x l).length=l.length+1
 | []=>rfl
 |y::r=>by simp only[vS]; split<;>simp[Ek x r]
def yF:∀l,(mO l).length=l.length
 | []=>rfl
 |x::r=>by simp[mO,Ek,yF r]
def KR{l Z:List ew}{v:Nat}(hl:l.length<=1000000)(hn:(l.map ew.ai).Nodup):aq cY 220 [.dg 0 v 3 0 l.length,.func 221 []] [.arr 3 v ((l++Z).map gh)]=some (.tuple [],[.arr 3 v ((mO l++Z).map gh)]):=by
 refine gy (g:=vU 3 2 221) rfl ?_;unfold vU;simp only[nth];have ht:((l++Z).map gh).take l.length=l.map gh:=by simp[gq]
 have hd:((l++Z).map gh).drop l.length=Z.map gh:=by simp
 rw[ht,hd,E2,<-bB];rw[fY]
 ·rfl
 ·refine⟨trivial,trivial,trivial,by simp,trivial,by omega,?_,?_⟩
  ·intro x hx;obtain⟨n,_,rfl⟩:=bR.1 hx;rfl
  ·rw[fT];exact hn
def ahV(xs:List ag)(v:Nat)(b0 b1 b2 b3:cA):ke [b0,b1,b2,b3,.arr 3 v xs] (iC [4]) [4]=some [.arr 3 v xs]:=rfl
attribute [local irreducible] fP fi kD gK dp kr aq aL ct bI
structure BI(o:oS):Prop where
 aR:o.aR.length<=90000
 rp:o.rp.length<=90000
 data:o.data.length<=90000
def cn.LN{t:Tree}{cf:Int->Nat}(h:cn t cf 0)(to:Int)(nm:Bytes):∀e,dX (gw t.ae to).1.aM nm=some e->(bD t.ae e.au).au≠to:=by
 intro e he;unfold gw at he;split at he
 ·cases he
 ·rename_i n hn;split at he
  ·have hem:=(eu he).1;obtain⟨_,_,_,_,m,hm,_⟩:=h.wB _ _ e hn hem;simp only[bD,hm,bz,(cg hm).2];exact h.vw hn hem
  ·cases he
def ali(t:Tree)(ht:Rt t)(dir:Int)(s:Bytes)(kind:Int)(hs:s.length<=100000)(M:aK):aL (aq fO) 171 [.agg [aZ t.ae,.int .i64 t.next,.int .i64 t.ai],.int .i64 dir,.str s,.int .i64 kind] M =
  some (.tuple [.agg [aZ (nk t dir s kind).1.ae,.int .i64 (nk t dir s kind).1.next,.int .i64 (nk t dir s kind).1.ai],.int .i64 (nk t dir s kind).2.1,.int .i64 (nk t dir s kind).2.2],M):=by
 obtain⟨cf,h⟩:=ht;have:=aj1 t dir s kind (h.sz.up (by omega)) h.jB hs trivial h.iq
 rw[UN h] at this;exact lS (cO this M)
def alj(t:Tree)(ht:Rt t)(au dir:Int)(s:Bytes)(hs:s.length<=100000)(M:aK):aL (aq fO) 172 [.agg [aZ t.ae,.int .i64 t.next,.int .i64 t.ai],.int .i64 au,.int .i64 dir,.str s] M =
  some (.tuple [.agg [aZ (BC t au dir s).1.ae,.int .i64 (BC t au dir s).1.next,.int .i64 (BC t au dir s).1.ai],.int .i64 (BC t au dir s).2],M):=by
 obtain⟨cf,h⟩:=ht;have:=aj2 t au dir s (h.sz.up (by omega)) h.jB hs trivial
 rw[acJ h] at this;exact lS (cO this M)
def alk(t:Tree)(ht:Rt t)(dir:Int)(s:Bytes)(hs:s.length<=100000)(M:aK):aL (aq fO) 174 [.agg [aZ t.ae,.int .i64 t.next,.int .i64 t.ai],.int .i64 dir,.str s] M =
  some (.tuple [.agg [aZ (vF t dir s).1.ae,.int .i64 (vF t dir s).1.next,.int .i64 (vF t dir s).1.ai],.int .i64 (vF t dir s).2.1,.int .i64 (vF t dir s).2.2],M):=by
 obtain⟨cf,h⟩:=ht;have:=aj3 t dir s (h.sz.up (by omega)) h.jB hs trivial
 rw[adw h] at this;exact lS (cO this M)
def alm(t:Tree)(ht:Rt t)(dir:Int)(s:Bytes)(to:Int)(nm:Bytes)(hs:s.length<=100000)(hn:nm.length<=100000)(M:aK):aL (aq fO) 176 [.agg [aZ t.ae,.int .i64 t.next,.int .i64 t.ai],.int .i64 dir,.str s,.int .i64 to,.str nm] M =
  some (.tuple [.agg [aZ (wa t dir s to nm).1.ae,.int .i64 (wa t dir s to nm).1.next,.int .i64 (wa t dir s to nm).1.ai],.int .i64 (wa t dir s to nm).2.1,.int .i64 (wa t dir s to nm).2.2],M):=by
 obtain⟨cf,h⟩:=ht;have:=aj5 t dir s to nm (h.sz.up (by omega)) h.jB hs trivial hn trivial (fun e he=>h.LN to nm e he)
 rw[acR h] at this;exact lS (cO this M)
def alP(t:Tree)(ht:Rt t)(au:Int)(s:Bytes)(hs:s.length<=100000)(M:aK):aL (aq fO) 175 [.agg [aZ t.ae,.int .i64 t.next,.int .i64 t.ai],.int .i64 au,.str s] M =
  some (.tuple [.int .i64 (dR t.ae au s).1,.int .i64 (dR t.ae au s).2],M):=lS (VD t.ae t.next t.ai au s ht.small ht.jB hs trivial M)
def Rt.add{t:Tree}(h:Rt t)(dir:Int)(s:Bytes)(kind:Int):Rt (nk t dir s kind).1:=let ⟨_,g⟩:=h; B7 g dir s kind (fun h=>h)
def Rt.ln{t:Tree}(h:Rt t)(au dir:Int)(s:Bytes):Rt (BC t au dir s).1:=let ⟨_,g⟩:=h; ⟨_,LZ g au dir s (fun h=>h)⟩
def Rt.un{t:Tree}(h:Rt t)(dir:Int)(s:Bytes):Rt (vF t dir s).1:=let ⟨_,g⟩:=h; ⟨_,Gz g dir s⟩
def Rt.mv{t:Tree}(h:Rt t)(dir:Int)(s:Bytes)(to:Int)(nm:Bytes):Rt (wa t dir s to nm).1:=let ⟨_,g⟩:=h; Ma g dir s to nm (fun h=>h)
def vg(t:Tree)(s:Bytes)(hs:s.length<=100000):(k6 t s).2.1.length<=1000:=by
 have:=tn s hs;unfold k6;split
 ·simp
 ·split
  ·simp
  ·simp only; omega
def alv{l Z:List ew}{v:Nat}(hl:l.length<=1000000)(hn:(l.map ew.ai).Nodup)(b0 b1 b2 b3:cA):aL (aq cY) 220 [.dg 4 v 3 0 l.length,.func 221 []] [b0,b1,b2,b3,.arr 3 v ((l++Z).map gh)]=some (.tuple [],[b0,b1,b2,b3,.arr 3 v ((mO l++Z).map gh)]) :=
 lL (ids:=[4]) rfl rfl (ahV _ _ ..) rfl rfl (KR hl hn) rfl rfl rfl rfl rfl
def Y4(M:aK):aL (aq cY) 220 [.slice .sh [],.func 221 []] M=some (.tuple [],M):=by
 have h:aq cY 220 [.slice .sh [],.func 221 []] []=some (.tuple [],[]):=by
  refine gy (g:=vU 3 2 221) rfl ?_;unfold vU;simp only[aE]
 exact cO h M
def zX{t:Tree}{cf:Int->Nat}(h:cn t cf 0)(au:Int):((gw t.ae au).1.aM.map ew.ai).Nodup/\(gw t.ae au).1.aM.length<=64:=by
 unfold gw;cases hi:find t.ae au with
 |none=>exact⟨kG,by simp[Node.zero]⟩
 |some n =>
  simp only;split
  ·exact⟨by rw[List.nodup_iff_pairwise_ne,jl]; exact(h.xJ _ _ hi).1,(h.xJ _ _ hi).2⟩
  ·exact⟨kG,by simp[Node.zero]⟩
def ajZ(t:Tree)(ht:Rt t)(au z m:Int):aq cY 168 [bJ t,.int .i64 au,.int .i64 z,.int .i64 m] []=some (.tuple [ib (pZ t au z m).1,.int .i64 (pZ t au z m).2.1,.int .i64 (pZ t au z m).2.2],[]):=by
 obtain⟨cf,h⟩:=ht;refine aI ?_;have q1:=fun b c M=>VF t.ae t.next t.ai au h.jB.ju (by have:=h.ae; omega) 2 (b::c :: .cells [aZ t.ae,.int .i64 t.next,.int .i64 t.ai]::M) rfl
 obtain⟨hnd,h64⟩:=zX h au;have hknd:((je z (gw t.ae au).1.aM).map ew.ai).Nodup:=(List.filter_sublist.map _).nodup hnd;have hkl:(je z (gw t.ae au).1.aM).length<=64:=bh (fa _ _) h64;unfold pZ Bb;generalize gw t.ae au=d at q1 hnd h64 hknd hkl ⊢;simp only[ck,aU] at q1;cases g1:decide (z<0)
 ·cases g2:decide (m<1)
  ·cases g3:decide (64<m)
   ·cases g4:d.2 != 0
    ·obtain⟨M,hM⟩:∃M:Nat,m=(M:Int):=⟨m.toNat,by simp at g2; omega⟩
     subst hM;have hM1:1<=M:=by simp at g2; omega
     have hM64:M<=64:=by simp at g3; omega
     generalize hE:d.1.aM=E at q1 hknd hkl h64 ⊢;have c0:∀b0 b2 b3,aL (aq cY) 217 [.slice .sh [],.func 219 [.ptr 1 0]] [b0,.cells [.int .i64 z],b2,b3]=some (.slice .sh [],[b0,.cells [.int .i64 z],b2,b3]):=fun b0 b2 b3=>ag6 z b0 b2 b3
     have z0:((0:Int)<=(M:Int))=True:=by simp
     by_cases hE0:E=[]
     ·have p1:∀M,aq cY 218 [ib E] M=some (.slice .c0 [],M):=fun M=>by subst hE0; exact ahQ M
      have hk:mO (je z E)=[]:=by subst hE0; rfl
      rw[hk];simp only[xT,GI,bJ,bc,q1,g1,g2,g3,g4,p1,c0,Y4,z0,aG,aU,dE,af,aE,aw,EW,seval];rfl
     ·have p1:=fun M=>p58 (l:=E) hE0 (by omega) M
      by_cases hK0:je z E=[]
      ·have p2:=fun b0 b2 b3=>ag7 E z (by omega) hE0 hK0 b0 b2 b3
       have hk:mO (je z E)=[]:=by rw[hK0]; rfl
       rw[hk];simp only[xT,GI,bJ,bc,q1,g1,g2,g3,g4,p1,p2,Y4,z0,aG,aU,dE,af,aE,aw,EW,seval];rfl
      ·have p2:=fun b0 b2 b3=>als E z (by omega) hE0 hK0 b0 b2 b3
       have hsl:=yF (je z E);generalize je z E=kk at p2 hknd hkl hK0 hsl ⊢;generalize List.replicate (E.length-kk.length) yM=Z at p2;have p3:=fun b0 b1 b2 b3=>alv (l:=kk) (Z:=Z) (v:=0) (by omega) hknd b0 b1 b2 b3
       generalize mO kk=ss at p3 hsl ⊢;have tk:List.take kk.length ((ss++Z).map gh)=ss.map gh:=by rw[<-hsl]; simp[gq]
       cases g5:decide ((kk.length:Int)<=(M:Int))
       ·have cr:M<kk.length:=by simp at g5; omega
        have g6:decide ((ss.length:Int)<=(M:Int))=false:=by rw[hsl]; exact g5
        have hw1:IntKind.i64.wrap ((M:Int)-1)=((M-1:Nat):Int):=by rw[gx (by omega) (by omega)]; omega
        have hx:=aj (show M-1<ss.length by omega)
        have hg:ss.getD (M-1) yM=ss[M-1]:=by simp[List.getD,hx]
        have hat:(ss++Z)[M-1]?=some ss[M-1]:=by rw[bj (by omega)]; exact hx
        have tm:List.take M ((ss++Z).map gh)=(ss.take M).map gh:=by
         rw[<-j7,gq (by omega)]
        have b1:((M:Int)<=(kk.length:Int))=True:=by simp; omega
        have b2:((M:Int)==0)=false:=by simp; omega
        have b3:((0:Int)==(M:Int))=false:=by simp; omega
        have b4:(((M-1:Nat):Int)<(kk.length:Int))=True:=by simp; omega
        simp only[xT,GI,bJ,bc,q1,g1,g2,g3,g4,g5,g6,p1,p2,p3,z0,hw1,hg,hat,tm,b1,b2,b3,b4,jc,fG,bU,eo,aU,dE,af,aE,aw,EW,seval];rw[<-j7]
       ·have g6:decide ((ss.length:Int)<=(M:Int))=true:=by rw[hsl]; exact g5
        simp only[xT,GI,bJ,bc,q1,g1,g2,g3,g4,g5,g6,p1,p2,p3,tk,bU,aU,dE,af,aE,aw,EW,seval]
    ·simp only[xT,GI,bJ,bc,q1,g1,g2,g3,g4,aU,dE,af,aE,aw,EW,seval];rfl
   ·simp only[xT,GI,bJ,bc,g1,g2,g3,aU,dG,dE,af,aE,aw,EW,seval];rfl
  ·simp only[xT,GI,bJ,bc,g1,g2,aU,dH,dG,dE,af,aE,aw,EW,seval];rfl
 ·simp only[xT,GI,bJ,bc,g1,aU,dH,dE,af,aE,aw,EW,seval];rfl
def alh(t:Tree)(ht:Rt t)(au z m:Int)(M:aK):aL (aq fO) 168 [.agg [aZ t.ae,.int .i64 t.next,.int .i64 t.ai],.int .i64 au,.int .i64 z,.int .i64 m] M=some (.tuple [ib (pZ t au z m).1,.int .i64 (pZ t au z m).2.1,.int .i64 (pZ t au z m).2.2],M) :=
 lS (cO (ajZ t ht au z m) M)
def Am{t:Tree}(ht:Rt t)(au z m:Int):(pZ t au z m).1.length<=100000:=by
 obtain⟨cf,h⟩:=ht;have h64:=(zX h au).2;have hf:(Bb t.ae au z).length<=64:=by unfold Bb; rw[yF]; exact bh (fa _ _) h64
 unfold pZ;split
 ·simp
 ·split
  ·simp
  ·split
   ·simp only; omega
   ·simp; omega
def c92(e:Int):aq fO 92 [.int .i64 e] []=some (if e != 0 then iV e else .tuple [],[]):=by
 refine aI ?_;simp only[agG,E92,EW,seval];cases he:e != 0
 ·simp only[E92,af,aw,EW,seval]
 ·simp only[E92,aE,valOf,iV,EW,seval]
def zg(e:Int)(M:aK):aL (aq fO) 92 [.int .i64 e] M=some (if e != 0 then iV e else .tuple [],M) :=
 vq (c92 e) rfl rfl (by split<;>rfl) rfl (by split<;>rfl) M
def c47(b:Bool)(e:Int)(he:(e != 0)=true):aq fO 47 [.bool b,.int .i64 e] []=some (if b then .tuple [] else iV e,[]):=by
 refine aI ?_;have q:=zg e;rw[az he] at q;cases b<;>simp only[agh,E47,q,iV,af,aE,aw,EW,seval]
def Ur(b:Bool)(e:Int)(he:(e != 0)=true)(M:aK):aL (aq fO) 47 [.bool b,.int .i64 e] M=some (if b then .tuple [] else iV e,M) :=
 vq (c47 b e he) rfl rfl (by split<;>rfl) rfl (by split<;>rfl) M
def k71(a b:Tree)(ha:Small a)(M:aK):aL (aq cY) 71 [.agg [aZ a.ae,.int .i64 a.next,.int .i64 a.ai],.agg [aZ b.ae,.int .i64 b.next,.int .i64 b.ai]] M=some (.bool (decide (a=b)),M):=cO (c71 a b ha) M
def c78:aq cY 78 [] []=some (.agg (bc oO),[]):=by
 refine aI ?_;simp only[agA,E78,EW,seval];rfl
def k78:=cP c78
end
def M1(n:oS):(ua n).cells=dK n:=rfl
def SE(n:oS):(dK n).length=8:=rfl
def tkO(n:oS):List.take 8 (dK n)=dK n:=rfl
def shO(n:oS):List.map ag.shut (dK n)=dK n:=rfl
def Pu(s:kc):(qh s).cells=eE s:=rfl
def We(s:kc):(eE s).length=11:=rfl
def amr(s:kc):List.take 11 (eE s)=eE s:=rfl
def amp(s:kc):List.map ag.shut (eE s)=eE s:=rfl
set_option linter.defProp false in
def sd:=bQ @M1 (bQ @SE (bQ @tkO (bQ @shO (bQ @Pu (bQ @We (bQ @amr (@amp)))))))
def zi(o:oS):Bool:=decide (5000<(o.data.length:Int))||(decide (1000<(o.aR.length:Int))||decide (1000<(o.rp.length:Int)))
def Gf{o:oS}(h:zi o=false):BI o:=by
 simp only[zi,jj,dk] at h;exact⟨by omega,by omega,by omega⟩
def L1(s:kc):Bool:=zi s.op||decide (1000<(s.aR.length:Int))
def sE(l:List kc):Bool:=if decide (40<(l.length:Int)) then true else l.any L1
def sj{l:List kc}(h:sE l=false):l.length<=40/\∀s,s∈l->BI s.op/\s.aR.length<=1000:=by
 unfold sE at h;split at h
 ·cases h
 ·rename_i h0;simp only[bt] at h0;refine⟨by omega,fun s hs=>?_⟩
  have:=List.any_eq_false.1 h s hs;simp only[L1,cJ,kH,Bool.not_eq_true,dk] at this;exact⟨Gf this.1,by omega⟩
section
attribute [local irreducible] fP fi kD gK dp kr aq aL ct bI
def c13(o:oS):aq cY 13 [ua o] []=some (.bool (zi o),[]):=by
 refine aI ?_;unfold zi
 cases h1:decide (5000<(o.data.length:Int))<;>cases h2:decide (1000<(o.aR.length:Int))<;>cases h3:decide (1000<(o.rp.length:Int)) <;>
  simp only[afZ,E13,ua,dK,h1,h2,h3,dG,dH,gk,da,EW,seval]
def k13(o:oS)(M:aK):aL (aq cY) 13 [.agg (dK o)] M=some (.bool (zi o),M):=cO (c13 o) M
def c12(xs:List kc):aq cY 12 [oM xs] []=some (.bool (sE xs),[]):=by
 refine aI ?_;unfold sE;cases h0:decide (40<(xs.length:Int))<;>simp only[afY,E12,h0,aE,af,aw,sd,EW,seval]
 have hn:xs.length<=40:=by simp at h0; omega
 refine pj (xs:=xs) (by omega) (fun l (_:Unit)=>l.any L1) (fun _ i=>[(0,oM xs),(3,.int .i64 i)]) (fun _=>[]) (fun b=>some (ag.bool b,([]:aK))) (fun _=>?_) (fun pre x post _ h hx cr hw h0 hm hi=>?_) ()
 ·simp only[E12,bf,List.any_nil,sd,EW,seval]
 ·have q:=fun M=>k13 x.op M
  simp only[dK,jo] at q;have i1:=hi ();simp only[List.any_cons,L1] at i1 ⊢;cases hl:zi x.op<;>rw[hl] at q<;>cases hp:decide (1000<(x.aR.length:Int))<;>simp only[E12,cr,hx,hw,q,hl,hp,eE,dK,aW,aX,dH,da,dG,gk,sd,EW,seval]
  exact i1
def Uq xs:=cP (c12 xs)
end
def Y7{f:Nat}{a:List ag}{M:aK}{x:ag×aK}(h:aq cY f a M=some x):aq iM f a M=some x:=lF' (lS' h)
def lG{f:Nat}{vs:List ag}{M:aK}{x:ag×aK}(h:aL (aq cY) f vs M=some x):aL (aq iM) f vs M=some x:=lF (lS h)
section
open Go.ChangeShapes Go.WideShapes Go.ChangeAt Go.RowKit Go.Deep
def laidOut:laidOutB Tryz.prog=true:=by kernel_rfl
section
variable {H:Type} {enc:TypeId×Value->H}
def lj{W W':World}(hb:Below W.heap.size W W'):∀ {ts:List TypeId} {vs:List Value} {ds:List (DataW H)} {p:List MemPlace},DataW.TrodAll enc Tryz.prog W 0 (fun _=>true) true ts vs ds p ->
  (∀t,t∈ts->Tryz.prog.readableRec t=true/\t<Tryz.prog.types.size)->(∀x∈p,x.block<W.heap.size)->DataW.TrodAll enc Tryz.prog W' 0 (fun b=>decide (b<W.heap.size)) true ts vs ds p
 | [],vs,ds,p,h,_,_=>by
  obtain⟨rfl,rfl,rfl⟩:=trodAll_nil h;exact trodAll_mk0
 |t::ts,vs,ds,p,h,ht,hp=>by
  obtain⟨v,vs',d,ds',p1,q,rfl,rfl,rfl,h1,h2⟩:=trodAll_cons h
  exact trodAll_cons_mk (Below.trod laidOut (ht t aD).1 (ht t aD).2 h1 hb (fun x hx=>hp x (eN _ hx)))
   (lj hb h2 (fun t ht'=>ht t (aO _ ht')) (fun x hx=>hp x (gZ _ hx)))
abbrev DE(w:World):Nat->Nat->Prop:=nR OV [] w
def T2{w:World}{b off:Nat}(h:b<w.heap.size):DE w b off:=⟨h,fun id hid=>absurd hid (j8 _),fun hx=>hx⟩
def ly(b off i:Nat):(⟨b,off,none⟩:Addr).add i=⟨b,off+i,none⟩:=by
 unfold Addr.add;split
 ·rename_i h; rw[h]; rfl
 ·rfl
def xn{w:World}{fuel t:Nat}{v:Value}{x:DataW H×List MemPlace}(ht:Tryz.prog.underlying t=some (.int .i64))(h:DataW.trod enc Tryz.prog w 0 (fun _=>true) true fuel t [v]=some x):∃n:Int,fF w (DE w) (.int .i64 n) v:=by
 obtain⟨n,q,_,_⟩:=DataW.trod_int ht h;cases q;exact⟨n,.int _ _⟩
def Ui{w:World}{fuel t:Nat}{v:Value}{x:DataW H×List MemPlace}(ht:Tryz.prog.underlying t=some (.int .u8))(h:DataW.trod enc Tryz.prog w 0 (fun _=>true) true fuel t [v]=some x):∃b:UInt8,fF w (DE w) (mF b) v:=by
 obtain⟨n,q,_,wf⟩:=DataW.trod_int ht h;cases q;have h3:IntKind.u8.min<=n/\n<=IntKind.u8.max:=by simpa[Lit.wf] using wf
 have e1:IntKind.u8.min=0:=by decide
 have e2:IntKind.u8.max=255:=by decide
 have e:n=((UInt8.ofNat n.toNat).toNat:Int):=by rw[UInt8.toNat_ofNat']; omega
 refine⟨UInt8.ofNat n.toNat,?_⟩;unfold mF;rw[<-e];exact .int _ _
def BU{w:World}{fuel t:Nat}{v:Value}{x:DataW H×List MemPlace}(ht:Tryz.prog.underlying t=some .string)(h:DataW.trod enc Tryz.prog w 0 (fun _=>true) true fuel t [v]=some x):∃s:Bytes,fF w (DE w) (.str s) v:=by
 obtain⟨s,q,_,_⟩:=DataW.trod_string ht h;cases q;refine⟨s.data.toList,?_⟩;have:Go.Abs.bs s.data.toList=s:=by apply ByteArray.ext; simp[Go.Abs.bs]
 have h:=fF.str (w:=w) (gX:=DE w) s.data.toList;rw[this] at h;exact h
def A6{α:Type}(P:Nat->α->Prop):∀(n:Nat),(∀i,i<n->∃a,P i a)->∃l:List α,l.length=n/\∀i a,l[i]?=some a->P i a
 |0,_=>⟨[],rfl,fun i a h=>by cases i<;>cases h⟩
 |n+1,h=>by
  obtain⟨l,hl,hp⟩:=A6 P n (fun i hi=>h i (by omega))
  obtain⟨a,ha⟩:=h n (by omega)
  refine⟨l++[a],by simp[hl],fun i b hb=>?_⟩
  rcases bG i n with hi|hi
  ·rw[bj (by omega)] at hb
   exact hp i b hb
  ·rw[bq (by omega)] at hb
   have:i=n:=by
    have:=(aC.1 hb).1;simp at this; omega
   subst this;simp[hl] at hb;subst hb; exact ha
def nh(w:World)(l:List ag)(cs:List Value):Prop:=l.length=cs.length/\∀(k:Nat)(c:ag)(v:Value),l[k]?=some c->cs[k]?=some v->fF w (DE w) c v
def nh.one{w:World}{c:ag}{v:Value}(h:fF w (DE w) c v):nh w [c] [v]:=⟨rfl,fun k c' v' h1 h2=>by
 match k with
 |0=>cases h1; cases h2; exact h
 |k+1=>cases h1⟩
def nh.app{w:World}{a b:List ag}{cs ds:List Value}(h:nh w a cs)(g:nh w b ds):nh w (a++b) (cs++ds):=⟨by simp[h.1,g.1],fun k c v h1 h2=>by
 rcases bG k a.length with hk|hk
 ·rw[bj hk] at h1;rw[bj (by rw[<-h.1]; exact hk)] at h2
  exact h.2 k c v h1 h2
 ·rw[bq hk] at h1;rw[bq (by rw[<-h.1]; exact hk),<-h.1] at h2
  exact g.2 _ c v h1 h2⟩
def nh.nil{w:World}:nh w [] []:=⟨rfl,fun k c v h1 _=>by cases h1⟩
def ahq:DataW H->Nat
 | .slice es _=>es.length
 |_=>0
def IH{α:Type}{w:World}{fuel t e m:Nat}{v:Value}{x:DataW H×List MemPlace}{eC:α->List ag}{mk:α->ag}(ht:Tryz.prog.underlying t=some (.slice e))(hm:Tryz.prog.cellsOf e=m)(hm0:0<m)
  (hmk:∀a,(mk a).cells=eC a) (eU:∀a,(eC a).length=m)
  (he:∀(n:Nat)(cs:List Value)(y:DataW H×List MemPlace),cs.length=m->DataW.trod enc Tryz.prog w 0 (fun _=>true) true n e cs=some y->∃a,nh w (eC a) cs)
  (h:DataW.trod enc Tryz.prog w 0 (fun _=>true) true fuel t [v]=some x) :
  ∃l:List α,fF w (DE w) (.slice .sh (l.map mk)) v/\l.length=ahq x.1:=by
 rcases open_slice ht h with ⟨hcs,hxx⟩|⟨a,len,cap,mm,n,D,Pl,hcs,_,hl,_,hmm,hxx,hi⟩
 ·cases hcs;exact⟨[],fF.nil _ _ _,by rw[hxx]; rfl⟩
 ·cases hcs;simp only[aE] at hmm;obtain⟨b,off,spot⟩:=a;rw[hm] at hi
  have each:∀i,i<len->∃s:α,∃cs',w.cells? 0 ((⟨b,off,spot⟩:Addr).add (i*m)) m=some cs'/\cs'.length=m/\nh w (eC s) cs':=by
   intro i hi';obtain⟨cs',hcl,ht⟩:=hi i (by omega)
   have hln:cs'.length=m:=(World.cells?_some hcl).2.1;obtain⟨s,hr⟩:=he _ _ _ hln ht;exact⟨s,cs',hcl,hln,hr⟩
  obtain⟨l,hll,hlp⟩:=A6 _ len each;refine⟨l,?_,by rw[hxx]; simp[ahq,hll]⟩
  have hsp:len≠0->spot=none:=fun h0=>by
   obtain⟨s,cs',hcl,h6,_⟩:=each 0 (by omega)
   obtain⟨_,_,hat⟩:=World.cells?_some hcl;have:=hat 0 hm0;have h3:cs'[0]?=some (cs'[0]'(by omega)):=aj (by omega)
   rw[h3] at this;simpa[Addr.add] using World.cell?_spot this
  have cell:∀(i:Nat)(s:α)(k:Nat)(c:ag),l[i]?=some s->(eC s)[k]?=some c->∃u,w.cell? ⟨b,off+(i*m+k),none⟩=some u/\fF w (DE w) c u:=fun i s k c hs hk=>by
   obtain⟨cs',hcl,h6,hr⟩:=hlp i s hs;have hil:i<len:=by have:=(aC.1 hs).1; omega
   obtain rfl:=hsp (by omega)
   obtain⟨_,_,hat⟩:=World.cells?_some hcl;have hk6:k<m:=by have:=(aC.1 hk).1; rw[eU] at this; exact this
   have h1:=hat k hk6;have h3:cs'[k]?=some (cs'[k]'(by omega)):=aj (by omega)
   rw[ly,ly,h3] at h1;exact⟨_,by rw[<-Nat.add_assoc]; exact h1,hr.2 k c _ hk h3⟩
  refine .slice _ _ _ _ b off m (fun q=>(w.cell? ⟨b,off+q,none⟩).getD undef) (by simp[hll]) hl (fun hne=>?_) ?_ ?_ ?_
  ·obtain rfl:=hsp (fun h0=>hne (by rw[h0] at hll; rw[cq.1 hll]; rfl))
   rfl
  ·intro x hx;obtain⟨s,_,rfl⟩:=bR.1 hx;rw[hmk,eU]
  ·intro i x k c hx hk;rw[aY] at hx;obtain⟨s,hs,rfl⟩:=aN.1 hx;rw[hmk] at hk;obtain⟨u,h1,_⟩:=cell i s k c hs hk;refine⟨by rw[h1]; rfl,T2 (Lp h1)⟩
  ·intro i x k c hx hk;rw[aY] at hx;obtain⟨s,hs,rfl⟩:=aN.1 hx;rw[hmk] at hk;obtain⟨u,h1,h2⟩:=cell i s k c hs hk
   show fF w _ c ((w.cell? _).getD undef)
   rw[h1];exact h2
def MW{w:World}{fuel t e:Nat}{v:Value}{x:DataW H×List MemPlace}(ht:Tryz.prog.underlying t=some (.slice e))(he:Tryz.prog.underlying e=some (.int .u8))(hc:Tryz.prog.cellsOf e=1)(h:DataW.trod enc Tryz.prog w 0 (fun _=>true) true fuel t [v]=some x) :
  ∃d:Bytes,fF w (DE w) (.slice .sh (d.map mF)) v:=by
 obtain⟨l,h,_⟩:=IH (eC:=fun b=>[mF b]) (mk:=mF) ht hc (by omega) (fun _=>rfl) (fun _=>rfl) (fun n cs y hl hy=>by
  match cs,hl with
  | [c],_ =>
   obtain⟨b,hb⟩:=Ui he hy;exact⟨b,.one hb⟩) h
 exact⟨l,h⟩
set_option maxRecDepth 100000 in
def Fm{w:World}{t:Nat}{fs:Array Field}{r:Reach}{b:Nat}{v:Value}{d:DataW H}{ps:List MemPlace}{P:List Value->Prop}(ht:Tryz.prog.underlying t=some (.struct fs))(h:DataW.Trod enc Tryz.prog w 0 (fun _=>true) true t v d ps)(hv:Value.okWide Tryz.prog w r b t v)
  (K:∀(n:Nat)(cs:List Value)(y:DataW H×List MemPlace),DataW.trod enc Tryz.prog w 0 (fun _=>true) true n t cs=some y->P cs):∃cs:Array Value,v = .agg cs/\P cs.toList:=by
 obtain⟨cs,rfl,_⟩:=okWide_struct ht hv;obtain⟨fuel,hf⟩:=h;have hcs:(Value.agg cs).cells.toList=cs.toList:=rfl;rw[hcs] at hf;exact⟨cs,rfl,K _ _ _ hf⟩
def La{w:World}{l:List ag}{cs:Array Value}(h:nh w l cs.toList):fV OV [] w (.agg l) (.agg cs) :=
 .agg (by rw[h.1]; simp) (fun i c v hc hv => .plain (h.2 i c v hc (by simpa using hv)))
def qp{T:Bz}(hT:pd Tryz.prog (aq T)){f:Nat}{args:List ag}(h:aq T f args []=some (.bool true,[]))(w:World)(hG:su OV [] w)(vs:Array Value)(hl:args.length=vs.size)(hv:∀(i:Nat)(c:ag)(v:Value),args[i]?=some c->vs[i]?=some v->fV OV [] w c v) :
  Calls Tryz.prog f vs w fun e w'=>e = .returned (.bool true)/\Below w.heap.size w w':=by
 refine((hT f args [] _ h).2 OV w vs (aml w) hG hl hv).mono ?_;intro e w' hce;obtain⟨v,rfl,j',_,hx,hr⟩:=hce.ret rfl;obtain rfl:=hr.iY;exact⟨rfl,hx.os,hx.tape,hx.output,hx.size,fun k hk=>(hx.uk k hk fun i hi=>absurd hi (j8 _)).1⟩
def Pm{w:World}{n t k:Nat}{cs:List Value}{v:Value}{y:DataW H×List MemPlace}(hc:Tryz.prog.cellsOf t=1)(hk:cs[k]?=some v)(h:DataW.trod enc Tryz.prog w 0 (fun _=>true) true n t ((cs.drop k).take (Tryz.prog.cellsOf t))=some y):DataW.trod enc Tryz.prog w 0 (fun _=>true) true n t [v]=some y:=by
 rw[hc] at h
 have:(cs.drop k).take 1=[v]:=by
  have:=(aC.1 hk);obtain⟨h1,h2⟩:=this;rw[cB h1,h2]; rfl
 rw[this] at h;exact h
def Fi:Tryz.prog.underlying 3=some (.int .i64):=by kernel_rfl
def I0:Tryz.prog.underlying 9=some .string:=by kernel_rfl
def adu:Tryz.prog.underlying 5=some (.int .u8):=by kernel_rfl
def Xn:Tryz.prog.underlying 23=some (.slice 5):=by kernel_rfl
def DX:Tryz.prog.cellsOf 3=1:=by kernel_rfl
def Pr:Tryz.prog.cellsOf 9=1:=by kernel_rfl
def afE:Tryz.prog.cellsOf 5=1:=by kernel_rfl
def U0:Tryz.prog.cellsOf 23=1:=by kernel_rfl
def al1:Tryz.prog.cellsOf 25=8:=by kernel_rfl
set_option maxRecDepth 100000 in
def Tw{w:World}{fuel:Nat}{cs:List Value}{x:DataW H×List MemPlace}(h:DataW.trod enc Tryz.prog w 0 (fun _=>true) true fuel 25 cs=some x):∃o:oS,nh w (dK o) cs:=by
 obtain⟨xs,n,_,_,hl,hxl,hf⟩:=DataW.trod_struct underlying25 h;have h0:cs.length=8:=by rw[hl]; kernel_rfl
 match cs,h0 with
 | [v0,v1,v2,v3,v4,v5,v6,v7],_ =>
  match xs,hxl with
  | [y0,y1,y2,y3,y4,y5,y6,y7],_ =>
   obtain⟨a0,r0⟩:=xn Fi (Pm (k:=0) DX rfl (hf 0 _ rfl));obtain⟨a1,r1⟩:=xn Fi (Pm (k:=1) DX rfl (hf 1 _ rfl));obtain⟨a2,r2⟩:=BU I0 (Pm (k:=2) Pr rfl (hf 2 _ rfl));obtain⟨a3,r3⟩:=BU I0 (Pm (k:=3) Pr rfl (hf 3 _ rfl));obtain⟨a4,r4⟩:=xn Fi (Pm (k:=4) DX rfl (hf 4 _ rfl));obtain⟨a5,r5⟩:=xn Fi (Pm (k:=5) DX rfl (hf 5 _ rfl));obtain⟨a6,r6⟩:=xn Fi (Pm (k:=6) DX rfl (hf 6 _ rfl));obtain⟨a7,r7⟩:=MW Xn adu afE (Pm (k:=7) U0 rfl (hf 7 _ rfl));exact⟨⟨a0,a1,a2,a3,a4,a5,a6,a7⟩,.app (.one r0) (.app (.one r1) (.app (.one r2) (.app (.one r3) (.app (.one r4) (.app (.one r5) (.app (.one r6) (.one r7)))))))⟩
set_option maxRecDepth 100000 in
def Ty{w:World}{r:Reach}{b:Nat}{v:Value}{d:DataW H}{ps:List MemPlace}(h:DataW.Trod enc Tryz.prog w 0 (fun _=>true) true 25 v d ps)(hv:Value.okWide Tryz.prog w r b 25 v):∃o:oS,fV OV [] w (.agg (dK o)) v:=by
 obtain⟨cs,rfl,o,hr⟩:=Fm underlying25 h hv (fun n cs y hy=>Tw hy)
 exact⟨o,La hr⟩
set_option maxRecDepth 100000 in
def My{w:World}{r:Reach}{b:Nat}{v:Value}{d:DataW H}{ps:List MemPlace}(h:DataW.Trod enc Tryz.prog w 0 (fun _=>true) true 9 v d ps)(hv:Value.okWide Tryz.prog w r b 9 v):∃s:Bytes,fV OV [] w (.str s) v:=by
 have:=hv;obtain⟨s,rfl⟩:=okWide_string I0 hv;obtain⟨fuel,hf⟩:=h;obtain⟨l,h2⟩:=BU I0 hf;exact⟨l,.plain h2⟩
set_option maxRecDepth 100000 in
def wY{w:World}{r:Reach}{b:Nat}{v:Value}{d:DataW H}{ps:List MemPlace}(h:DataW.Trod enc Tryz.prog w 0 (fun _=>true) true 5 v d ps)(hv:Value.okWide Tryz.prog w r b 5 v):∃x:UInt8,fV OV [] w (mF x) v:=by
 obtain⟨n,rfl,_,_,hw⟩:=open_int adu hv h;have h3:IntKind.u8.min<=n/\n<=IntKind.u8.max:=by simpa[Lit.wf] using hw
 have e1:IntKind.u8.min=0:=by decide
 have e2:IntKind.u8.max=255:=by decide
 have e:n=((UInt8.ofNat n.toNat).toNat:Int):=by rw[UInt8.toNat_ofNat']; omega
 refine⟨UInt8.ofNat n.toNat,.plain ?_⟩;unfold mF;rw[<-e];exact .int _ _
end
def yJ{α:Type}{a:Array α}{l:List α}(h:a.toList=l):a=l.toArray:=by rw[<-h]
section
variable {H:Type} {enc:TypeId×Value->H}
def acS:Tryz.prog.cellsOf 74=11:=by kernel_rfl
def MB:Tryz.prog.underlying 22=some (.slice 74):=by kernel_rfl
set_option maxRecDepth 100000 in
def IW{w:World}{fuel:Nat}{cs:List Value}{x:DataW H×List MemPlace}(h:DataW.trod enc Tryz.prog w 0 (fun _=>true) true fuel 74 cs=some x):∃s:kc,nh w (eE s) cs:=by
 obtain⟨xs,n,_,_,hl,hxl,hf⟩:=DataW.trod_struct underlying74 h;have h0:cs.length=11:=by rw[hl]; kernel_rfl
 match cs,h0 with
 | [v0,v1,v2,v3,v4,v5,v6,v7,v8,v9,v10],_ =>
  match xs,hxl with
  | [y0,y1,y2,y3],_ =>
   obtain⟨a0,r0⟩:=Ui adu (Pm (k:=0) afE rfl (hf 0 _ rfl));have h1:=hf 1 _ rfl;change DataW.trod enc Tryz.prog w 0 (fun _=>true) true n 25 (List.take (Tryz.prog.cellsOf 25) _)=_ at h1
   rw[al1] at h1;obtain⟨a1,r1⟩:=Tw h1;obtain⟨a2,r2⟩:=BU I0 (Pm (k:=9) Pr rfl (hf 2 _ rfl));obtain⟨a3,r3⟩:=xn Fi (Pm (k:=10) DX rfl (hf 3 _ rfl));exact⟨⟨a0,a1,a2,a3⟩,.app (.one r0) (.app r1 (.app (.one r2) (.one r3)))⟩
set_option maxRecDepth 100000 in
def IX{w:World}{r:Reach}{b:Nat}{v:Value}{d:DataW H}{ps:List MemPlace}(h:DataW.Trod enc Tryz.prog w 0 (fun _=>true) true 74 v d ps)(hv:Value.okWide Tryz.prog w r b 74 v):∃s:kc,fV OV [] w (.agg (eE s)) v:=by
 obtain⟨cs,rfl,o,hr⟩:=Fm underlying74 h hv (fun n cs y hy=>IW hy)
 exact⟨o,La hr⟩
set_option maxRecDepth 100000 in
def rQ{w:World}{r:Reach}{b:Nat}{v:Value}{d:DataW H}{ps:List MemPlace}(h:DataW.Trod enc Tryz.prog w 0 (fun _=>true) true 22 v d ps)(hv:Value.okWide Tryz.prog w r b 22 v):∃l:List kc,fV OV [] w (oM l) v:=by
 obtain⟨a,len,cap,rfl⟩:=okWide_slice MB hv;obtain⟨fuel,hf⟩:=h;obtain⟨l,h2,_⟩:=IH (eC:=eE) (mk:=qh) MB acS (by omega) (fun _=>rfl) (fun _=>rfl) (fun n cs y _ hy=>IW hy) hf
 exact⟨l,.plain h2⟩
end
end
section
variable {l:List Piece}
def FR(own:Nat)(e:Int):Nat->List Piece->List Piece
 |_,[]=>[]
 |i,x::r=>(if i=own then { x with dJ:=e } else x)::FR own e (i+1) r
def Li(own:Nat)(e:Int):∀(r:List Piece)(i:Nat),own<i->FR own e i r=r
 | [],_,_=>rfl
 |x::r,i,h=>by rw[FR,ak (by omega),Li own e r (i+1) (by omega)]
def Lj(e:Int):∀(r:List Piece)(i k:Nat),FR (i+k) e i r=r.set k { mD r k with dJ:=e }
 | [],_,_=>rfl
 |x::r,i,0=>by rw[FR,az (by omega),Li _ e r (i+1) (by omega)]; rfl
 |x::r,i,k+1=>by
  have:=Lj e r (i+1) k;rw[FR,ak (by omega),show i+(k+1)=i+1+k by omega,this]; rfl
def Po(l:List Piece)(own:Nat)(e:Int):FR own e 0 l=mR l own e:=by
 have:=Lj e l 0 own;rw[aP] at this; exact this
def nc(p:Piece)(own:Nat)(s:Nat×List Piece×Bool)(x:Piece):Nat×List Piece×Bool :=
 (s.1+1,(if !s.2.2&&strLt p.aR x.aR then s.2.1++[p] else s.2.1)++[if s.1=own then { x with dJ:=mG (x.dJ+1) } else x],s.2.2||strLt p.aR x.aR)
def PE(p:Piece)(own:Nat)(l:List Piece):List Piece :=
 if (l.foldl (nc p own) (0,[],false)).2.2=true then (l.foldl (nc p own) (0,[],false)).2.1 else (l.foldl (nc p own) (0,[],false)).2.1++[p]
def Hi(p:Piece)(own:Nat)(e:Int):∀(r:List Piece)(i:Nat)(out:List Piece),(∀x,i<=own->r[own-i]?=some x->mG (x.dJ+1)=e) ->
  r.foldl (nc p own) (i,out,true)=(i+r.length,out++FR own e i r,true)
 | [],i,out,_=>by simp[FR]
 |x::r,i,out,he=>by
  have hx:i=own->mG (x.dJ+1)=e:=fun h=>he x (by omega) (by subst h; simp)
  rw[bA,nc];simp only[cU,cd,af,aw,dH];rw[Hi p own e r (i+1) _ (fun y hy hr=>he y (by omega) (by rw[show own-i=own-(i+1)+1 by omega]; simpa using hr)),FR]
  refine fC (by simp; omega) (fC ?_ rfl)
  simp only[cZ,aW,aX];congr 2;split
  ·rename_i h; rw[hx h]
  ·rfl
def PG(p:Piece)(own:Nat)(e:Int):∀(r:List Piece)(i:Nat)(out:List Piece),r.Pairwise (fun a b=>strLt a.aR b.aR=true)->(∀q,q∈r->q.aR≠p.aR)->(∀x,i<=own->r[own-i]?=some x->mG (x.dJ+1)=e) ->
  (if (r.foldl (nc p own) (i,out,false)).2.2=true then (r.foldl (nc p own) (i,out,false)).2.1 else (r.foldl (nc p own) (i,out,false)).2.1++[p])=out++xM (FR own e i r) p
 | [],i,out,_,_,_=>by simp[FR,xM]
 |x::r,i,out,ha,hn,he=>by
  have hx:i=own->mG (x.dJ+1)=e:=fun h=>he x (by omega) (by subst h; simp)
  have he':∀y,i+1<=own->r[own-(i+1)]?=some y->mG (y.dJ+1)=e:=fun y hy hr=>he y (by omega) (by rw[show own-i=own-(i+1)+1 by omega]; simpa using hr)
  obtain⟨ha1,ha2⟩:=bF.1 ha
  have hh:(if i=own then ({ x with dJ:=mG (x.dJ+1) }:Piece) else x)=(if i=own then { x with dJ:=e } else x):=by
   split
   ·rename_i h; rw[hx h]
   ·rfl
  have hp:(if i=own then ({ x with dJ:=e }:Piece) else x).aR=x.aR:=by split<;>rfl
  rw[bA,nc];simp only[fS,bP,da]
  by_cases hc:strLt p.aR x.aR=true
  ·have hc2:strLt x.aR p.aR=false:=rR hc;rw[hc,az rfl,Hi p own e r (i+1) _ he',hh];simp only[aE];rw[FR,xM,fb,k7,hp,hc2];simp
  ·have hc1:strLt p.aR x.aR=false:=by simpa using hc
   have hc2:strLt x.aR p.aR=true:=by
    rcases qF p.aR x.aR with g|g|g
    ·rw[hc1] at g; cases g
    ·exact absurd g.symm (hn x aD)
    ·exact g
   simp only[hc1,af,aw];rw[PG p own e r (i+1) _ ha2 (fun q hq=>hn q (aO _ hq)) he',hh,FR]
   conv=>rhs; rw[xM,fb,k7,hp,hc2]
   simp[xM]
def Nd(h:jS l){p:Piece}{own:Nat}(hn:∀q,q∈l->q.aR≠p.aR)(he:(mD l own).dJ<1099511627776)(ho:own<l.length):PE p own l=xM (mR l own ((mD l own).dJ+1)) p:=by
 have hok:=(h.ok _ (p8 ho)).2
 have:=PG p own ((mD l own).dJ+1) l 0 [] h.ju hn (fun x _ hx=>by
  have:x=mD l own:=by rw[bU] at hx; simp[mD,hx]
  rw[this];exact gx (by omega) (by omega))
 rw[aX,Po] at this;exact this
def pW(par at':Nat)(e:Int)(s:Nat×List Piece)(x:Piece):Nat×List Piece:=(s.1+1,if s.1 != at' then s.2++[if s.1=par then { x with dJ:=e } else x] else s.2)
def F6(par at':Nat)(e:Int):∀(r:List Piece)(i:Nat)(out:List Piece),(r.foldl (pW par at' e) (i,out)).2=out++(if at'<i then FR par e i r else (FR par e i r).eraseIdx (at'-i))
 | [],i,out=>by simp[FR]
 |x::r,i,out=>by
  rw[bA,pW]
  by_cases h:i=at'
  ·rw[ak (by simp[h]),F6 par at' e r (i+1),az (by omega),ak (by omega),FR,show at'-i=0 by omega]; rfl
  ·rw[az (by simpa using h),F6 par at' e r (i+1),FR]
   by_cases h2:at'<i
   ·rw[az (show at'<i+1 by omega),az h2]; simp
   ·rw[ak (show ¬at'<i+1 by omega),ak h2,show at'-i=at'-(i+1)+1 by omega]; simp
def Ke(l:List Piece)(par at':Nat)(e:Int):(l.foldl (pW par at' e) (0,[])).2=(mR l par e).eraseIdx at':=by
 rw[F6 par at' e l 0 [],ak (by omega),Po]; rfl
end
def re(z:Int)(es:List ew):Int:=(es.foldl (fun(s:Nat×Int) e=>(s.1+1,if !decide (e.ai<z)&&(decide (s.2<0)||decide (e.ai<(es.getD s.2.toNat yM).ai)) then (s.1:Int) else s.2)) (0,-1)).2
structure Jl(z:Int)(es:List ew)(n:Nat)(b:Int):Prop where
 none:b<0->b = -1/\∀i e,i<n->es[i]?=some e->e.ai<z
 some:0<=b->∃e,es[b.toNat]?=some e/\b.toNat<n/\z<=e.ai/\∀i x,i<n->es[i]?=some x->z<=x.ai->e.ai<=x.ai
def H3(z:Int)(es:List ew):∀(r pre:List ew)(b:Int),es=pre++r->Jl z es pre.length b ->
  Jl z es es.length (r.foldl (fun(s:Nat×Int) e=>(s.1+1,if !decide (e.ai<z)&&(decide (s.2<0)||decide (e.ai<(es.getD s.2.toNat yM).ai)) then (s.1:Int) else s.2)) (pre.length,b)).2
 | [],pre,b,h,hb=>by
  rw[bV] at h;subst h; exact hb
 |x::r,pre,b,h,hb=>by
  rw[bA];have hx:es[pre.length]?=some x:=by rw[h]; simp
  have:=H3 z es r (pre++[x]) (if !decide (x.ai<z)&&(decide (b<0)||decide (x.ai<(es.getD b.toNat yM).ai)) then (pre.length:Int) else b) (by rw[h]; simp) ?_
  ·simpa using this
  ·have hl:(pre++[x]).length=pre.length+1:=by simp
   rw[hl]
   have uk:∀(i:Nat)(y:ew),i<pre.length+1->es[i]?=some y->(i<pre.length\/y=x):=fun i y hi hy=>by
    rcases bG i pre.length with h1|h1
    ·exact .inl h1
    ·have:i=pre.length:=by omega
     subst this;rw[hx] at hy; injection hy with hy
     exact .inr hy.symm
   split
   ·rename_i hc;simp only[bm,gS,dk,mH,cJ,bt] at hc;refine⟨fun h0=>by omega,fun _=>⟨x,by simpa using hx,by simp,hc.1,fun i y hi hy hz=>?_⟩⟩
    rcases uk i y hi hy with h1|rfl
    ·rcases lU b 0 with h2|h2
     ·have:=(hb.none h2).2 i y h1 hy; omega
     ·obtain⟨e,e1,e2,e3,e4⟩:=hb.some h2;have h3:=hc.2.resolve_left (by omega)
      rw[fp,e1] at h3;have:=e4 i y h1 hy hz;simp only[bz] at h3;omega
    ·exact fG _
   ·rename_i hc;refine⟨fun h0=>⟨(hb.none h0).1,fun i y hi hy=>?_⟩,fun h0=>?_⟩
    ·rcases uk i y hi hy with h1|rfl
     ·exact(hb.none h0).2 i y h1 hy
     ·rcases lU y.ai z with h3|h3
      ·exact h3
      ·exact absurd (by simp[h0,mH.2 h3]) hc
    ·obtain⟨e,e1,e2,e3,e4⟩:=hb.some h0;refine⟨e,e1,by omega,e3,fun i y hi hy hz=>?_⟩
     rcases uk i y hi hy with h1|rfl
     ·exact e4 i y h1 hy hz
     ·rcases lU y.ai e.ai with h3|h3
      ·exfalso;refine hc ?_;rw[fp,e1];simp[mH.2 hz,h3]
      ·exact h3
def CW(z:Int)(es:List ew):Jl z es es.length (re z es) :=
 H3 z es es [] (-1) rfl ⟨fun _=>⟨rfl,fun i e hi=>absurd hi (j8 _)⟩,fun h=>by omega⟩
theorem Aq(x y:ew):∀l:List ew,y∈vS x l↔y=x\/y∈l
 | []=>by simp[vS]
 |z::r=>by
  rw[vS];split
  ·simp
  ·simp only[bb,Aq x y r]; grind
def rN(y:ew):∀l:List ew,y∈mO l↔y∈l
 | []=>by simp[mO]
 |x::r=>by rw[mO,Aq,rN y r,bb]
def Ej(x:ew):∀l:List ew,l.Pairwise (fun a b=>a.ai<b.ai)->(∀y,y∈l->y.ai≠x.ai)->(vS x l).Pairwise fun a b=>a.ai<b.ai
 | [],_,_=>by simp[vS]
 |z::r,h,hn=>by
  obtain⟨h1,h2⟩:=bF.1 h;rw[vS];split
  ·rename_i hc;refine bF.2 ⟨fun y hy=>?_,h⟩
   rcases bb.1 hy with rfl|hy
   ·exact hc
   ·have:=h1 y hy; omega
  ·rename_i hc;refine bF.2 ⟨fun y hy=>?_,Ej x r h2 fun y hy=>hn y (aO _ hy)⟩
   rcases(Aq x y r).1 hy with rfl|hy
   ·have:=hn z aD; omega
   ·exact h1 y hy
def yE:∀l:List ew,(l.map ew.ai).Nodup->(mO l).Pairwise fun a b=>a.ai<b.ai
 | [],_=>List.Pairwise.nil
 |x::r,h=>by
  simp only[aV,gW] at h;exact Ej x _ (yE r h.2) fun y hy e=>h.1 (bR.2 ⟨y,(rN y r).1 hy,e⟩)
def D0:∀ {a b:List ew},a.Pairwise (fun x y=>x.ai<y.ai)->b.Pairwise (fun x y=>x.ai<y.ai)->(∀x,x∈a↔x∈b)->a=b
 | [],[],_,_,_=>rfl
 | [],y::b,_,_,h=>by have:=(h y).2 aD; cases this
 |x::a,[],_,_,h=>by have:=(h x).1 aD; cases this
 |x::a,y::b,ha,hb,h=>by
  obtain⟨ha1,ha2⟩:=bF.1 ha;obtain⟨hb1,hb2⟩:=bF.1 hb
  have e:x=y:=by
   rcases bb.1 ((h x).1 aD) with e|hx
   ·exact e
   ·rcases bb.1 ((h y).2 aD) with e|hy
    ·exact e.symm
    ·have:=ha1 y hy;have:=hb1 x hx;omega
  subst e;congr 1;refine D0 ha2 hb2 fun z=>⟨fun hz=>?_,fun hz=>?_⟩
  ·rcases bb.1 ((h z).1 (aO _ hz)) with rfl|h2
   ·have:=ha1 z hz; omega
   ·exact h2
  ·rcases bb.1 ((h z).2 (aO _ hz)) with rfl|h2
   ·have:=hb1 z hz; omega
   ·exact h2
def xw{z:Int}{l:List ew}{x:ew}:x∈je z l↔x∈l/\z<=x.ai:=by
 simp[je,ef,mH]
def Bj{z:Int}{l:List ew}(h:(l.map ew.ai).Nodup):((je z l).map ew.ai).Nodup:=h.sublist (List.Sublist.map _ oa)
def IT{z:Int}{es:List ew}(hb:re z es<0):mO (je z es)=[]:=by
 refine List.eq_nil_iff_forall_not_mem.2 fun x hx=>?_
 obtain⟨h1,h2⟩:=xw.1 ((rN x _).1 hx);obtain⟨i,hi⟩:=bN h1;have:=((CW z es).none hb).2 i x (aF hi) hi;omega
def Dp{z:Int}{es:List ew}(hn:(es.map ew.ai).Nodup)(hb:0<=re z es):∃e,es[(re z es).toNat]?=some e/\z<=e.ai/\e∈es/\mO (je z es)=e::mO (je (e.ai+1) es):=by
 obtain⟨e,e1,e2,e3,e4⟩:=(CW z es).some hb;have hm:=aQ e1;refine⟨e,e1,e3,hm,D0 (yE _ (Bj hn)) (bF.2 ⟨fun y hy=>?_,yE _ (Bj hn)⟩) fun x=>?_⟩
 ·have:=(xw.1 ((rN y _).1 hy)).2; omega
 ·rw[rN,xw,bb,rN,xw];constructor
  ·rintro⟨h1,h2⟩;obtain⟨i,hi⟩:=bN h1;have:=e4 i x (aF hi) hi h2
   by_cases hc:x.ai=e.ai
   ·left;obtain⟨j,hj⟩:=bN hm;have hi':(es.map ew.ai)[i]?=some x.ai:=by rw[aY,hi]; rfl
    have hj':(es.map ew.ai)[j]?=some x.ai:=by rw[aY,hj,hc]; rfl
    have:=Iu hn hi' hj';subst this;rw[hi] at hj; injection hj
   ·exact .inr ⟨h1,by omega⟩
  ·rintro(rfl|⟨h1,h2⟩)
   ·exact⟨hm,e3⟩
   ·exact⟨h1,by omega⟩
def fU(last:Int)(s:Int×Node)(x:Node):Int×Node:=if decide (last<x.au)&&(s.1==0||decide (x.au<s.1)) then (x.au,x) else s
def Gk(last:Int)(h0:0<=last):∀(l:List Node)(s:Int×Node),(s.1=0\/(last<s.1/\s.2.au=s.1)) ->
  ((l.foldl (fU last) s).1=0/\s.1=0/\∀x,x∈l->x.au<=last)\/(last<(l.foldl (fU last) s).1/\(l.foldl (fU last) s).2.au=(l.foldl (fU last) s).1/\((l.foldl (fU last) s).2∈l\/(l.foldl (fU last) s)=s)/\(s.1=0\/(l.foldl (fU last) s).1<=s.1)/\∀x,x∈l->last<x.au->(l.foldl (fU last) s).1<=x.au)
 | [],s,hs=>by
  rcases hs with hs|⟨h1,h2⟩
  ·exact .inl ⟨hs,hs,by simp⟩
  ·exact .inr ⟨h1,h2,.inr rfl,.inr (fG _),by simp⟩
 |x::l,s,hs=>by
  rw[bA]
  by_cases hc:(decide (last<x.au)&&(s.1==0||decide (x.au<s.1)))=true
  ·have e:fU last s x=(x.au,x):=by rw[fU,az hc]
   simp only[bm,bt,cJ,dM] at hc;rw[e];rcases Gk last h0 l (x.au,x) (.inr ⟨hc.1,rfl⟩) with ⟨_,g2,_⟩|⟨g1,g2,g3,g4,g5⟩
   ·simp only at g2; omega
   ·refine .inr ⟨g1,g2,?_,?_,fun y hy hl=>?_⟩
    ·rcases g3 with g3|g3
     ·exact .inl (aO _ g3)
     ·rw[g3]; exact .inl aD
    ·simp only at g4;rcases hc.2 with h1|h1
     ·exact .inl h1
     ·right; omega
    ·simp only at g4;rcases bb.1 hy with rfl|hy
     ·omega
     ·exact g5 y hy hl
  ·have e:fU last s x=s:=by rw[fU,ak hc]
   simp only[bm,bt,cJ,dM,not_and,kH,mH] at hc;rw[e];rcases Gk last h0 l s hs with ⟨g1,g2,g3⟩|⟨g1,g2,g3,g4,g5⟩
   ·refine .inl ⟨g1,g2,fun y hy=>?_⟩
    rcases bb.1 hy with rfl|hy
    ·rcases lU last y.au with h|h
     ·exact absurd g2 (hc h).1
     ·exact h
    ·exact g3 y hy
   ·refine .inr ⟨g1,g2,?_,g4,fun y hy hl=>?_⟩
    ·rcases g3 with g3|g3
     ·exact .inl (aO _ g3)
     ·exact .inr g3
    ·rcases bb.1 hy with rfl|hy
     ·have:=hc hl;rcases g4 with g4|g4
      ·exact absurd g4 this.1
      ·omega
     ·exact g5 y hy hl
def Md{ns pre post:List Node}{L:List Node}{last:Int}(ha:nI ns)(hp:L.Perm ns)(he:ns=pre++post)(h0:0<=last)(hlo:∀x,x∈pre->x.au<=last)(hhi:∀x,x∈post->last<x.au)(z:Node) :
  L.foldl (fU last) (0,z)=match post with|[]=>(0,z)|x::_=>(x.au,x):=by
 rcases Gk last h0 L (0,z) (.inl rfl) with ⟨g1,_,g3⟩|⟨g1,g2,g3,_,g5⟩
 ·cases post with
  |nil =>
   have:∀(l:List Node),(∀x,x∈l->x.au<=last)->l.foldl (fU last) (0,z)=(0,z):=by
    intro l;induction l with
    |nil=>intro _; rfl
    |cons x l ih =>
     intro h;rw[bA,fU,ak (by have:=h x aD; simp; omega)]
     exact ih fun y hy=>h y (aO _ hy)
   exact this L g3
  |cons x post =>
   have hx:=g3 x (hp.mem_iff.2 (by rw[he]; simp))
   have:=hhi x aD;omega
 ·generalize hr:L.foldl (fU last) (0,z)=r at g1 g2 g3 g5
  have hm:r.2∈L:=by
   rcases g3 with g3|g3
   ·exact g3
   ·rw[g3] at g1; simp only at g1; omega
  have hmn:r.2∈ns:=hp.mem_iff.1 hm
  have hmp:r.2∈post:=by
   rw[he] at hmn;rcases bS.1 hmn with h|h
   ·have:=hlo _ h; omega
   ·exact h
  cases post with
  |nil=>cases hmp
  |cons x post =>
   have h1:=g5 x (hp.mem_iff.2 (by rw[he]; simp)) (hhi x aD)
   rw[he] at ha;have ha2:=(bF.1 (dw.1 ha).2.1).1;rcases bb.1 hmp with e|h2
   ·subst e; exact fC g2.symm rfl
   ·have:=ha2 _ h2;omega
section
attribute [local irreducible] fP fi kD gK dp kr aq aL ct bI
def WI(l:List ew)(s:Bytes)(a b:Int):l.map gh++[.agg [.str s,.int .i64 a,.int .i64 b]]=(l++[ew.mk s a b]).map gh:=by simp[gh,eo]
def sX(au:Int):List Node->Nat->Int
 | [],_ => -1
 |n::r,i=>if n.au=au then i else sX au r (i+1)
def acM{t:Tree}{au:Int}(ht:t.ae.length<=100000){k:List K}{R:Int->Option (ag×aK)}
  (hx:∀e,kr (aq cY) [.tmp 4] 0 k ⟨.exit 0,e,[.cells (bc t)]⟩=R (-1)) (hr:∀(i:Nat),kr (aq cY) [.tmp 4] 0 k ⟨.ret,[(4,.int .i64 i)],[.cells (bc t)]⟩=R i) :
  ∀(l pre:List Node),t.ae=pre++l->fP (aq cY) [.tmp 4] 0 k (.loop [1,2,5] acF) [(1,.int .i64 au),(2,.ptr 0 0),(5,.int .i64 pre.length)] [.cells (bc t)]=R (sX au l pre.length):=by
 intro l;induction l with
 |nil =>
  intro pre h;rw[bX];simp only[ZN,bc,aZ,ot h,EN,seval];exact hx _
 |cons n r ih =>
  intro pre h;rw[bX];have eU:pre.length+1<=100000:=by rw[h] at ht; simp at ht; omega
  have hw:=GD pre n;simp only[ZN,bc,aZ,mM h,jf h,aU,EN,seval];refine bK (fun hb=>?_) (fun hb=>?_)
  ·have hb:n.au=au:=by simpa using hb
   simp only[ZN,EN,seval];rw[sX,az hb];exact hr _
  ·have hb:¬n.au=au:=by simpa using hb
   simp only[ZN,hw,EN,seval];rw[sX,ak hb];have:=ih (pre++[n]) (by rw[h]; simp)
   simp only[aJ,av,aG] at this ⊢;exact this
def c69(t:Tree)(au:Int)(ht:t.ae.length<=100000):aq cY 69 [bJ t,.int .i64 au] []=some (.int .i64 (sX au t.ae 0),[]):=by
 refine aI ?_;simp only[agu,ZN,bJ,EN,seval];exact acM (R:=fun z=>some (.int .i64 z,[])) ht (fun e=>by simp only[ZN,EN,seval]) (fun i=>by simp only[ZN,EN,seval]) t.ae [] rfl
def k69(ae:List Node)(next ai au:Int)(h:ae.length<=100000)(M:aK):aL (aq cY) 69 [.agg [aZ ae,.int .i64 next,.int .i64 ai],.int .i64 au] M=some (.int .i64 (sX au ae 0),M) :=
 cO (c69 ⟨ae,next,ai⟩ au h) M
def zp(au:Int):∀(l:List Node)(i:Nat),(find l au=none/\sX au l i = -1)\/∃m n,l[m]?=some n/\find l au=some n/\sX au l i=((i+m:Nat):Int)
 | [],_ => .inl ⟨rfl,rfl⟩
 |n::r,i=>by
  unfold find sX
  by_cases h:n.au=au
  ·exact .inr ⟨0,n,rfl,by simp[h],by simp[h]⟩
  ·rcases zp au r (i+1) with ⟨h1,h2⟩|⟨m,n',h1,h2,h3⟩
   ·exact .inl ⟨by simp[h]; simpa[find] using h1,by simp[h,h2]⟩
   ·exact .inr ⟨m+1,n',by simpa using h1,by simp[h]; simpa[find] using h2,by simp[h,h3]; omega⟩
def c26(t:Tree)(au:Int)(ht:t.ae.length<=100000):aq cY 26 [bJ t,.int .i64 au] []=some (.tuple [ck ((find t.ae au).getD Node.zero),.bool (find t.ae au).isSome],[]):=by
 refine aI ?_;simp only[af6,E26,bJ,bc,k69,ht,EN,seval];rcases zp au t.ae 0 with ⟨h1,h2⟩|⟨m,n,h1,h2,h3⟩
 ·rw[h2];simp only[E26,h1,EN,seval];rfl
 ·rw[h3];simp only[E26,h1,h2,aZ,aU,EN,seval];rfl
def F8(ae:List Node)(next ai au:Int)(h:ae.length<=100000)(M:aK):aL (aq cY) 26 [.agg [aZ ae,.int .i64 next,.int .i64 ai],.int .i64 au] M=some (.tuple [ck ((find ae au).getD Node.zero),.bool (find ae au).isSome],M) :=
 cO (c26 ⟨ae,next,ai⟩ au h) M
def ajx(t:Tree)(au:Int)(ht:t.ae.length<=100000):aq cY 116 [bJ t,.int .i64 au] []=some (.tuple [ck (gw t.ae au).1,.int .i64 (gw t.ae au).2],[]):=by
 refine aI ?_;simp only[XX,Uv,bJ,bc,F8,ht,ck,aU,EN,seval];unfold gw;cases hf:find t.ae au with
 |none=>simp only[Uv,Option.isSome,EN,seval]; first|done|rfl
 |some n =>
  simp only[Uv,Option.isSome,bz,EN,seval]
  repeat' ((first|apply bK|apply cI|apply eW)<;>intro hb<;>simp only[hb,EN,Uv,seval])
  all_goals simp_all [Node.zero]
def Vz(ae:List Node)(next ai au:Int)(h:ae.length<=100000)(M:aK):aL (aq cY) 116 [.agg [aZ ae,.int .i64 next,.int .i64 ai],.int .i64 au] M=some (.tuple [ck (gw ae au).1,.int .i64 (gw ae au).2],M) :=
 cO (ajx ⟨ae,next,ai⟩ au h) M
def sS(s:Bytes):List ew->Nat->Int
 | [],_ => -1
 |n::r,i=>if n.name=s then i else sS s r (i+1)
def sU(s:Bytes):∀(l:List ew)(i:Nat),(dX l s=none/\sS s l i = -1)\/∃m n,l[m]?=some n/\dX l s=some n/\sS s l i=((i+m:Nat):Int)
 | [],_ => .inl ⟨rfl,rfl⟩
 |n::r,i=>by
  unfold dX sS
  by_cases h:n.name=s
  ·exact .inr ⟨0,n,rfl,by simp[h],by simp[h]⟩
  ·rcases sU s r (i+1) with ⟨h1,h2⟩|⟨m,n',h1,h2,h3⟩
   ·exact .inl ⟨by simp[h]; simpa[dX] using h1,by simp[h,h2]⟩
   ·exact .inr ⟨m+1,n',by simpa using h1,by simp[h]; simpa[dX] using h2,by simp[h,h3]; omega⟩
def Wk{t:Node}{s:Bytes}(ht:t.aM.length<=100000){k:List K}{R:Int->Option (ag×aK)}
  (hx:∀e,kr (aq cY) [.tmp 4] 0 k ⟨.exit 0,e,[.cells (aU t)]⟩=R (-1)) (hr:∀(i:Nat),kr (aq cY) [.tmp 4] 0 k ⟨.ret,[(4,.int .i64 i)],[.cells (aU t)]⟩=R i) :
  ∀(l pre:List ew),t.aM=pre++l->fP (aq cY) [.tmp 4] 0 k (.loop [1,2,5] VT) [(1,.str s),(2,.ptr 0 0),(5,.int .i64 pre.length)] [.cells (aU t)]=R (sS s l pre.length):=by
 intro l;induction l with
 |nil =>
  intro pre h;rw[bX];simp only[Ja,aU,ib,ot h,EN,seval];exact hx _
 |cons n r ih =>
  intro pre h;rw[bX];have eU:pre.length+1<=100000:=by rw[h] at ht; simp at ht; omega
  have hw:=GD pre n;simp only[Ja,aU,ib,mM h,jf h,eo,EN,seval];refine bK (fun hb=>?_) (fun hb=>?_)
  ·have hb:n.name=s:=by simpa using hb
   simp only[Ja,EN,seval];rw[sS,az hb];exact hr _
  ·have hb:¬n.name=s:=by simpa using hb
   simp only[Ja,hw,EN,seval];rw[sS,ak hb];have:=ih (pre++[n]) (by rw[h]; simp)
   simp only[aJ,av,aG] at this ⊢;exact this
def ajz(t:Node)(s:Bytes)(ht:t.aM.length<=100000):aq cY 118 [ck t,.str s] []=some (.int .i64 (sS s t.aM 0),[]):=by
 refine aI ?_;simp only[XZ,Ja,ck,EN,seval];exact Wk (R:=fun z=>some (.int .i64 z,[])) ht (fun e=>by simp only[Ja,EN,seval]) (fun i=>by simp only[Ja,EN,seval]) t.aM [] rfl
def aa1(a b c:Int)(d:Bytes)(e:List ew)(u:Int)(s:Bytes)(h:e.length<=100000)(M:aK):aL (aq cY) 118 [.agg [.int .i64 a,.int .i64 b,.int .i64 c,jo d,ib e,.int .i64 u],.str s] M=some (.int .i64 (sS s e 0),M) :=
 cO (ajz ⟨a,b,c,d,e,u⟩ s h) M
def Wj{s:Bytes}(hs:s.length<=100000){k:List K}{R:Bool->Option (ag×aK)}
  (hx:∀e,kr (aq cY) [.tmp 2] 0 k ⟨.exit 0,e,[]⟩=R true) (hr:kr (aq cY) [.tmp 2] 0 k ⟨.ret,[(2,.bool false)],[]⟩=R false) :
  ∀(l pre:Bytes),s=pre++l->fP (aq cY) [.tmp 2] 0 k (.loop [0,3] VS) [(0,.str s),(3,.int .i64 pre.length)] []=R (l.all sI):=by
 intro l;induction l with
 |nil =>
  intro pre h;rw[bX];simp only[GG,ot h,EN,seval];exact hx _
 |cons n r ih =>
  intro pre h;rw[bX];have eU:pre.length+1<=100000:=by rw[h] at hs; simp at hs; omega
  have hw:=GD pre n;have hi:=ih (pre++[n]) (by rw[h]; simp)
  simp only[aJ,av,aG] at hi;simp only[GG,mM h,jf h,EN,seval]
  repeat' ((first|apply bK|apply cI|apply eW)<;>intro hb<;>simp only[hb,EN,GG,jf h,hw,seval])
  all_goals try simp only[GG,EN,seval]
  all_goals first
   |(refine hr.trans ?_; congr 1; symm; simp_all [sI]; done)
   |(refine hi.trans ?_; congr 1; symm; simp_all [sI]; done)
def ajy(s:Bytes)(hs:s.length<=100000):aq cY 117 [.str s] []=some (.bool (dB s),[]):=by
 refine aI ?_;simp only[XY,GG,EN,seval];have hl:=fun k hx hr=>Wj (k:=k) (R:=fun b=>some (ag.bool b,[])) hs hx hr s [] rfl
 repeat' ((first|apply bK|apply cI|apply eW)<;>intro hb<;>simp only[hb,EN,GG,seval])
 all_goals first
  |(simp_all [dB]; done)
  |(refine(hl _ (fun e=>by simp only[GG,EN,seval]) (by simp only[GG,EN,seval])).trans ?_; simp_all [dB]; done)
def Qy s hs:=cP (ajy s hs)
def c56(t:Tree)(au:Int)(s:Bytes)(ht:Small t)(hs:s.length<=100000):aq cY 56 [bJ t,.int .i64 au,.str s] []=some (.tuple [.int .i64 (dR t.ae au s).1,.int .i64 (dR t.ae au s).2],[]):=by
 refine aI ?_;have hd:=ti ht au;simp only[agn,ZL,bJ,bc,Vz,ht.ae,ck,aU,EN,seval];unfold dR;refine bK (fun hb=>?_) (fun hb=>?_)
 ·simp only[ZL,EN,seval];simp_all
 ·simp only[ZL,Qy,hs,EN,seval];refine bK (fun hb'=>?_) (fun hb'=>?_)
  ·simp only[ZL,EN,seval];simp_all
  ·simp only[ZL,aa1,hd,EN,seval];rcases sU s (gw t.ae au).1.aM 0 with ⟨h1,h2⟩|⟨m,n,h1,h2,h3⟩
   ·rw[h2];simp only[ZL,EN,seval];simp_all
   ·rw[h3];simp only[ZL,h1,ib,eo,EN,seval];simp_all
def k56(ae:List Node)(next ai au:Int)(s:Bytes)(ht:Small ⟨ae,next,ai⟩)(hs:s.length<=100000)(M:aK):aL (aq cY) 56 [.agg [aZ ae,.int .i64 next,.int .i64 ai],.int .i64 au,.str s] M =
  some (.tuple [.int .i64 (dR ae au s).1,.int .i64 (dR ae au s).2],M):=cO (c56 ⟨ae,next,ai⟩ au s ht hs) M
def Wh{t:Tree}{n:Node}(ht:t.ae.length<=100000){k:List K}{R:List Node->Bool->Option (ag×aK)}
  (hx:∀out done v e,out.length<=300000->kr (aq cY) [.fD 4 3] 0 k ⟨.exit 0,[(2,.ptr 0 0),(3,.ptr 1 0),(4,.ptr 2 0),(5,.slice (.own 3) (out.map ck)),(6,.bool done),(7,v),(12,e)],[.cells (bc t),.cells (aU n),.cells zT,.tick 6 out.length]⟩=R out done) :
  ∀(l pre out:List Node)(done:Bool),t.ae=pre++l->out.length+2*l.length<=300000->fP (aq cY) [.fD 4 3] 0 k (.loop [2,3,4,5,6,7] VQ) [(2,.ptr 0 0),(3,.ptr 1 0),(4,.ptr 2 0),(5,.slice (.own 3) (out.map ck)),(6,.bool done),(7,.int .i64 pre.length)] [.cells (bc t),.cells (aU n),.cells zT,.tick 6 out.length]=R (nW n l out done).1 (nW n l out done).2:=by
 intro l;induction l with
 |nil =>
  intro pre out done h ho;rw[bX];simp only[I8,bc,aZ,ot h,EN,seval];exact hx _ _ _ _ (by simp at ho; omega)
 |cons m r ih =>
  intro pre out done h ho;rw[bX];have eU:pre.length+1<=100000:=by rw[h] at ht; simp at ht; omega
  have hw:=GD pre m;have hi:=fun out done ho=>ih (pre++[m]) out done (by rw[h]; simp) ho
  simp only[av] at ho;have r1:dL (out.length+1) 80=True:=xN;have r2:dL (out.length+1+1) 80=True:=xN;rw[nW];simp only[I8,bc,aZ,mM h,jf h,aU,EN,seval]
  repeat' ((first|apply bK|apply cI|apply eW)<;>intro hb<;>simp only[hb,EN,I8,jf h,hw,r1,r2,aU,seval])
  all_goals try simp only[I8,jf h,hw,r1,r2,aU,EN,seval]
  all_goals first
   |(refine cW ?_ ((hi (out++[n]++[m]) true (by simp; omega)).trans ?_)
     ·simp only[bB,aV,bo,aJ,av,aG]; rfl
     ·clear hi ih hx hw h; simp_all; done)
   |(refine cW ?_ ((hi (out++[n]) true (by simp; omega)).trans ?_)
     ·simp only[bB,aV,bo,aJ,av,aG]; rfl
     ·clear hi ih hx hw h; simp_all; done)
   |(refine cW ?_ ((hi (out++[m]) done (by simp; omega)).trans ?_)
     ·simp only[bB,aV,bo,aJ,av,aG]; rfl
     ·clear hi ih hx hw h; simp_all; done)
   |(refine cW ?_ ((hi out done (by omega)).trans ?_)
     ·simp only[bB,aV,bo,aJ,av,aG]; rfl
     ·clear hi ih hx hw h; simp_all; done)
def aju(t:Tree)(n:Node)(ht:t.ae.length<=100000):aq cY 112 [bJ t,ck n] []=some (bJ ⟨eI t.ae n,t.next,t.ai⟩,[]):=by
 refine aI ?_;simp only[P4,I8,bJ,ck,EN,seval];refine Wh (R:=fun out done=>some (bJ ⟨out++(if done then [] else [n]),t.next,t.ai⟩,[])) ht (fun out done v e ho=>?_) t.ae [] [] false rfl (by simp; omega)
 have r1:dL (out.length+1) 80=True:=xN;cases done
 ·simp only[I8,r1,bJ,bc,zT,aU,EN,seval];simp[aZ,ck,aU]
 ·simp only[I8,r1,bJ,bc,zT,aU,EN,seval]
  try simp[aZ]
def HP(ae:List Node)(next ai a b c:Int)(d:Bytes)(e:List ew)(u:Int)(h:ae.length<=100000)(M:aK):aL (aq cY) 112 [.agg [aZ ae,.int .i64 next,.int .i64 ai],.agg [.int .i64 a,.int .i64 b,.int .i64 c,jo d,ib e,.int .i64 u]] M =
  some (.agg [aZ (eI ae ⟨a,b,c,d,e,u⟩),.int .i64 next,.int .i64 ai],M):=cO (aju ⟨ae,next,ai⟩ ⟨a,b,c,d,e,u⟩ h) M
def Wr{t:Tree}{au:Int}(ht:t.ae.length<=100000){k:List K}{R:List Node->Option (ag×aK)}
  (hx:∀out v e,out.length<=300000->kr (aq cY) [.fD 4 3] 0 k ⟨.exit 0,[(1,.int .i64 au),(2,.ptr 0 0),(4,.ptr 1 0),(5,.slice (.own 2) (out.map ck)),(6,v),(11,e)],[.cells (bc t),.cells zT,.tick 6 out.length]⟩=R out) :
  ∀(l pre out:List Node),t.ae=pre++l->out.length+l.length<=150000->fP (aq cY) [.fD 4 3] 0 k (.loop [1,2,4,5,6] V3) [(1,.int .i64 au),(2,.ptr 0 0),(4,.ptr 1 0),(5,.slice (.own 2) (out.map ck)),(6,.int .i64 pre.length)] [.cells (bc t),.cells zT,.tick 6 out.length]=R (out++iP l au):=by
 intro l;induction l with
 |nil =>
  intro pre out h ho;rw[bX];simp only[O4,bc,aZ,ot h,EN,seval];refine(hx _ _ _ (by simp at ho; omega)).trans (by simp[iP])
 |cons m r ih =>
  intro pre out h ho;rw[bX];have eU:pre.length+1<=100000:=by rw[h] at ht; simp at ht; omega
  have hw:=GD pre m;have hi:=fun out ho=>ih (pre++[m]) out (by rw[h]; simp) ho
  simp only[av] at ho;have r1:dL (out.length+1) 80=True:=xN;simp only[O4,bc,aZ,mM h,jf h,aU,EN,seval]
  repeat' ((first|apply bK|apply cI|apply eW)<;>intro hb<;>simp only[hb,EN,O4,jf h,hw,r1,aU,seval])
  all_goals first
   |(refine cW ?_ ((hi (out++[m]) (by simp; omega)).trans ?_)
     ·simp only[bB,aV,bo,aJ,av,aG]; rfl
     ·clear hi ih hx hw h; simp_all[iP]; done)
   |(refine cW ?_ ((hi out (by omega)).trans ?_)
     ·simp only[bB,aV,bo,aJ,av,aG]; rfl
     ·clear hi ih hx hw h; simp_all[iP]; done)
def aka(t:Tree)(au:Int)(ht:t.ae.length<=100000):aq cY 181 [bJ t,.int .i64 au] []=some (bJ ⟨iP t.ae au,t.next,t.ai⟩,[]):=by
 refine aI ?_;simp only[Qb,O4,bJ,EN,seval];refine(Wr (R:=fun out=>some (bJ ⟨out,t.next,t.ai⟩,[])) ht (fun out v e ho=>?_) t.ae [] [] rfl (by simp; omega)).trans (by simp[bJ])
 simp only[O4,bJ,bc,zT,EN,seval]
 try simp[aZ]
def ag2(ae:List Node)(next ai au:Int)(h:ae.length<=100000)(M:aK):aL (aq cY) 181 [.agg [aZ ae,.int .i64 next,.int .i64 ai],.int .i64 au] M =
  some (.agg [aZ (iP ae au),.int .i64 next,.int .i64 ai],M):=cO (aka ⟨ae,next,ai⟩ au h) M
def Wi{T:List ag}{n:Node}{s:Bytes}(hn:n.aM.length<=100000){k:List K}{R:List ew->Option (ag×aK)}
  (hx:∀out v e,out.length<=300000->kr (aq cY) [.fD 6 3] 0 k ⟨.exit 0,[(2,.str s),(3,.ptr 0 0),(6,.ptr 1 0),(7,.ptr 2 0),(9,.slice (.own 3) (out.map gh)),(10,v),(21,e)],[.cells T,.cells zT,.cells (aU n),.tick 3 out.length]⟩=R out)
  (hT:∀B M,T.map (ag.jz B M)=T) :
  ∀(l pre out:List ew),n.aM=pre++l->out.length+l.length<=150000->fP (aq cY) [.fD 6 3] 0 k (.loop [2,3,6,7,9,10] VR) [(2,.str s),(3,.ptr 0 0),(6,.ptr 1 0),(7,.ptr 2 0),(9,.slice (.own 3) (out.map gh)),(10,.int .i64 pre.length)] [.cells T,.cells zT,.cells (aU n),.tick 3 out.length]=R (out++fE l s):=by
 intro l;induction l with
 |nil =>
  intro pre out h ho;rw[bX];simp only[I9,aU,ib,ot h,EN,seval];refine(hx _ _ _ (by simp at ho; omega)).trans (by simp[fE])
 |cons m r ih =>
  intro pre out h ho;rw[bX];have eU:pre.length+1<=100000:=by rw[h] at hn; simp at hn; omega
  have hw:=GD pre m;have hi:=fun out ho=>ih (pre++[m]) out (by rw[h]; simp) ho
  simp only[av] at ho;have r1:dL (out.length+1) 32=True:=xN;simp only[I9,aU,ib,mM h,jf h,eo,hT,zT,EN,seval]
  repeat' ((first|apply bK|apply cI|apply eW)<;>intro hb<;>simp only[hb,EN,I9,jf h,hw,r1,eo,hT,zT,seval])
  all_goals first
   |(refine cW ?_ ((hi (out++[m]) (by simp; omega)).trans ?_)
     ·simp only[bB,aV,bo,aJ,av,aG]; rfl
     ·clear hi ih hx hw h hT; simp_all[fE]; done)
   |(refine cW ?_ ((hi out (by omega)).trans ?_)
     ·simp only[bB,aV,bo,aJ,av,aG]; rfl
     ·clear hi ih hx hw h hT; simp_all[fE]; done)
def D7{t:Tree}(hs:Small t)(au:Int):((find t.ae au).getD Node.zero).aM.length<=100000:=by
 cases h:find t.ae au with
 |none=>simp[Node.zero]
 |some n=>exact hs.aM n (cg h).1
def ajw(t:Tree)(au:Int)(s:Bytes)(ht:Small t):aq cY 115 [bJ t,.int .i64 au,.str s] []=some (bJ ⟨dr t.ae au s,t.next,t.ai⟩,[]):=by
 refine aI ?_;have hd:=D7 ht au;unfold dr;simp only[P5,I9,bJ,bc,F8,ht.ae,ck,EN,seval];generalize (find t.ae au).getD Node.zero=n at hd ⊢;simp only[I9,aU,EN,seval];refine(Wi (R:=fun out=>some (bJ ⟨eI t.ae { n with aM:=out },t.next,t.ai⟩,[])) hd (fun out v e ho=>?_) (fun B M=>by simp only[I9,EN,seval]) n.aM [] [] rfl (by simp; omega)).trans (by simp[bJ,bc])
 simp only[I9,zT,aU,HP,ht.ae,EN,seval];simp[bJ,bc]
end
end Go.Proofs.YtcbopkblmebjiaaGreatDoor
namespace Go.Abs
open Go
def gA{C:eL}{fn:List sr}{bM:Nat}{k:List K}{live:List Nat}{body:cv}{α σ ρ:Type}{xs:List α}(hn:xs.length<=1000000)(I:Nat->σ->Prop)(go:List α->σ->ρ)(E:σ->Int->Env)(M:σ->aK)(R:ρ->Option (ag×aK))
  (hend:∀s,I xs.length s->fP C fn bM (.loop live (M s).length body::k) body (jr (E s xs.length) live) (M s)=R (go [] s))
  (hstep:∀(pre:List α)(x:α)(post:List α)(s:σ),xs=pre++x::post->xs[pre.length]?=some x->((pre.length:Int)<xs.length)=True->IntKind.i64.wrap ((pre.length:Int)+1)=(pre.length:Int)+1->((pre.length:Int)<0)=False->x∈xs->I pre.length s ->
   (∀s',I (pre.length+1) s'->fP C fn bM k (.loop live body) (E s' ((pre.length:Int)+1)) (M s')=R (go post s'))->fP C fn bM (.loop live (M s).length body::k) body (jr (E s pre.length) live) (M s)=R (go (x::post) s)) :
  ∀s,I 0 s->fP C fn bM k (.loop live body) (E s 0) (M s)=R (go xs s):=by
 have key:∀(l pre:List α)(s:σ),xs=pre++l->I pre.length s->fP C fn bM k (.loop live body) (E s pre.length) (M s)=R (go l s):=by
  intro l;induction l with
  |nil =>
   intro pre s h hI;have e:pre.length=xs.length:=by rw[h]; simp
   rw[bX,e];exact hend s (by rw[<-e]; exact hI)
  |cons x r ih =>
   intro pre s h hI;rw[bX];have hl:pre.length+1<=1000000:=by rw[h] at hn; simp at hn; omega
   refine hstep pre x r s h (by rw[h]; simp) (by rw[h]; simp; omega) (gx (by omega) (by omega)) (by simp) (by rw[h]; simp) hI fun s' hI'=>?_
   have:=ih (pre++[x]) s' (by rw[h]; simp) (by simpa using hI')
   simpa using this
 intro s hI;exact key xs [] s rfl hI
def Lu{C:eL}{fn:List sr}{bM:Nat}{k:List K}{live:List Nat}{body:cv}{α σ ρ:Type}{xs:List α}(hn:xs.length<=1000000)(I:Nat->σ->Prop)(go:List α->σ->ρ)(E:σ->Int->Env)(M:σ->aK)(R:ρ->Option (ag×aK))
  (hend:∀s,I xs.length s->fP C fn bM (.lO live body::k) body (jr (E s xs.length) live) (M s)=R (go [] s))
  (hstep:∀(pre:List α)(x:α)(post:List α)(s:σ),xs=pre++x::post->xs[pre.length]?=some x->((pre.length:Int)<xs.length)=True->IntKind.i64.wrap ((pre.length:Int)+1)=(pre.length:Int)+1->((pre.length:Int)<0)=False->x∈xs->I pre.length s ->
   (∀s',I (pre.length+1) s'->fP C fn bM k (.lO live body) (E s' ((pre.length:Int)+1)) (M s')=R (go post s'))->fP C fn bM (.lO live body::k) body (jr (E s pre.length) live) (M s)=R (go (x::post) s)) :
  ∀s,I 0 s->fP C fn bM k (.lO live body) (E s 0) (M s)=R (go xs s):=by
 have key:∀(l pre:List α)(s:σ),xs=pre++l->I pre.length s->fP C fn bM k (.lO live body) (E s pre.length) (M s)=R (go l s):=by
  intro l;induction l with
  |nil =>
   intro pre s h hI;have e:pre.length=xs.length:=by rw[h]; simp
   rw[D6,e];exact hend s (by rw[<-e]; exact hI)
  |cons x r ih =>
   intro pre s h hI;rw[D6];have hl:pre.length+1<=1000000:=by rw[h] at hn; simp at hn; omega
   refine hstep pre x r s h (by rw[h]; simp) (by rw[h]; simp; omega) (gx (by omega) (by omega)) (by simp) (by rw[h]; simp) hI fun s' hI'=>?_
   have:=ih (pre++[x]) s' (by rw[h]; simp) (by simpa using hI')
   simpa using this
 intro s hI;exact key xs [] s rfl hI
end Go.Abs
namespace Go.Proofs.YtcbopkblmebjiaaGreatDoor
open Go Go.Abs
section
attribute [local irreducible] fP fi kD gK dp kr aq aL ct bI
def acL{s:Bytes}(hs:s.length<=100000){k:List K}{R:Option (List Bytes)->Option (ag×aK)}
  (hx:∀(l:List Bytes) z,kr (aq cY) [.tmp 2,.tmp 3] 0 k ⟨.exit 0,(0,.str s)::(4,.slice (.own 0) (l.map .str))::z,[.tick 1 l.length]⟩=R (some l))
  (hr:∀n,kr (aq cY) [.tmp 2,.tmp 3] 0 k ⟨.ret,[(2,.slice .c0 []),(3,.int .i64 60)],[.tick 1 n]⟩=R none) :
  ∀(rest:Bytes)(n m:Nat)(cur:Bytes)(out:List Bytes),s.drop m=rest->m+rest.length=s.length->n<=m->(s.take m).drop n=cur->out.length<=12 ->
   fP (aq cY) [.tmp 2,.tmp 3] 0 k (.loop [0,4,5,6] acE) [(0,.str s),(4,.slice (.own 0) (out.map .str)),(5,.int .i64 n),(6,.int .i64 m)] [.tick 1 out.length]=R (wc rest cur out):=by
 intro rest;induction rest with
 |nil =>
  intro n m cur out h1 h2 h3 h4 h5;simp only[aG,cS] at h2;rw[bX];have e1:((m:Int)<=(s.length:Int))=True:=Az;have e2:((m:Int)<(s.length:Int))=False:=Gp;have e3:((n:Int)<=(m:Int))=True:=Az;have w1:IntKind.i64.wrap ((m:Int)+1)=(m:Int)+1:=gx (by omega) (by omega)
  have e4:((m:Int)+1<=(s.length:Int))=False:=Gp;have hc:cur.length<=100000:=by rw[<-h4]; simp; omega
  have q:=fun M=>Qy cur hc M
  have r1:dL (out.length+1) 16=True:=xN;have i1:=hx (out++[cur]);simp only[bB,aV,bo,aJ,av,aG,aP] at i1;rw[wc]
  cases h6:dB cur<;>rw[h6] at q<;>cases h7:(out.length:Int)==12 <;>
   simp only[OS,e1,e2,e3,h4,q,h7,dH,da,dG,gk,aE,af,aw,EW,seval]<;>first|exact hr _|skip
  simp only[OS,r1,w1,EW,seval];rw[bX];simp only[OS,e4,EW,seval];exact i1 _
 |cons b r ih =>
  intro n m cur out h1 h2 h3 h4 h5;simp only[av] at h2;rw[bX];have e1:((m:Int)<=(s.length:Int))=True:=Az;have e2:((m:Int)<(s.length:Int))=True:=Az;have e3:((n:Int)<=(m:Int))=True:=Az;have w1:IntKind.i64.wrap ((m:Int)+1)=((m+1:Nat):Int):=by rw[gx (by omega) (by omega)]; rfl
  have hc:cur.length<=100000:=by rw[<-h4]; simp; omega
  have hb:s[m]?=some b:=by
   have:(s.drop m)[0]?=some b:=by rw[h1]; rfl
   simpa using this
  have hd:s.drop (m+1)=r:=by rw[<-List.drop_drop,h1]; rfl
  have hm:=(aC.1 hb).1
  have ht:(s.take (m+1)).drop n=cur++[b]:=by
   rw[dz,hb,Option.toList_some,List.drop_append_of_le_length (by simp; omega),h4]
  have q:=fun M=>Qy cur hc M
  have r1:dL (out.length+1) 16=True:=xN;have i1:=ih n (m+1) (cur++[b]) out hd (by omega) (by omega) ht h5
  have i2:=fun h=>ih (m+1) (m+1) [] (out++[cur]) hd (by omega) (by omega) (by simp) h
  simp only[bB,aV,bo,aJ,av,aG,aP] at i2;rw[wc];cases h8:(b.toNat:Int) != 47
  ·cases h6:dB cur<;>rw[h6] at q<;>cases h7:(out.length:Int)==12 <;>
    simp only[OS,e1,e2,e3,h4,hb,h8,q,h7,dH,da,dG,gk,aE,af,aw,EW,seval]<;>first|exact hr _|skip
   have h9:out.length+1<=12:=by simp at h7; omega
   simp only[OS,r1,w1,EW,seval];exact i2 h9
  ·simp only[OS,e1,e2,hb,h8,w1,aE,EW,seval];exact i1
def c67(s:Bytes)(hs:s.length<=100000):aq cY 67 [.str s] []=some (.tuple [fL (jy s).1,.int .i64 (jy s).2],[]):=by
 refine aI ?_;unfold jy;cases h0:s==[47]
 ·cases s with
  |nil=>simp only[Nt,OS,h0,af,aw,EW,seval]; rfl
  |cons b r =>
   have h1:((b::r)==[])=false:=rfl;cases h8:(b.toNat:Int) != 47
   ·have hl:=fun {k R} hx hr=>acL hs (k:=k) (R:=R) hx hr r 1 1 [] [] rfl (by simp; omega) (by omega) (by simp) (by simp)
    simp only[bo,aG] at hl;simp only[Nt,OS,h0,h1,h8,af,aw,EW,seval];refine hl (R:=fun o=>some (.tuple [fL (match o with|none=>(([]:List Bytes),(60:Int))|some l=>(l,0)).1,.int .i64 (match o with|none=>(([]:List Bytes),(60:Int))|some l=>(l,0)).2],[])) (fun l z=>?_) (fun n=>?_)
    ·simp only[OS,EW,seval]
    ·simp only[OS,EW,seval]; rfl
   ·simp only[Nt,OS,h0,h1,h8,af,aw,aE,EW,seval]; rfl
 ·simp only[Nt,OS,h0,aE,EW,seval]; rfl
def k67 s hs:=cP (c67 s hs)
def c88(l:List Bytes)(hl:l.length<=100)(h:∀x,x∈l->x.length<=32):aq cY 88 [fL l] []=some (.str (Er l),[]):=by
 refine aI ?_;unfold Er;cases h0:(l.length:Int)==0<;>simp only[agF,E88,h0,af,aw,aE,EW,seval]
 have key:∀ {k:List K} {R:Bytes->Option (ag×aK)} (hx:∀s z,kr (aq cY) [.tmp 2] 0 k ⟨.exit 0,(0,fL l)::(3,.str s)::z,[]⟩=R s) (rest pre:List Bytes) (s:Bytes),l=pre++rest->s.length<=33*pre.length->fP (aq cY) [.tmp 2] 0 k (.loop [0,3,4] acG) [(0,fL l),(3,.str s),(4,.int .i64 pre.length)] []=R (yu rest s):=by
  intro k R hx rest;induction rest with
  |nil =>
   intro pre s e _;rw[bX];simp only[E88,ot e,yu,gN,EW,seval];exact hx _ _
  |cons x r ih =>
   intro pre s e hs;rw[bX];have hxl:=h x (by rw[e]; simp)
   have hp:pre.length+1<=100:=by rw[e] at hl; simp at hl; omega
   have hw:=GD pre x;have i1:=ih (pre++[x]) (s++[47]++x) (by rw[e]; simp) (by simp; omega)
   have m1:(IntKind.i64.max<((s.length+1:Nat):Int))=False:=max_lt _ (by omega)
   have m2:(IntKind.i64.max<((s.length+1+x.length:Nat):Int))=False:=max_lt _ (by omega)
   simp only[aJ,av,aG,aP] at i1;simp only[yu,bA] at i1 ⊢;simp only[E88,mM e,jf e,hw,m1,m2,EW,seval];exact i1
 exact key (R:=fun s=>some (.str s,[])) (fun s z=>by simp only[E88,EW,seval]) l [] [] rfl (by simp)
def k88 l hl h:=cP (c88 l hl h)
def Eu(s:Bytes):Bytes×Bytes×Int:=if (jy s).2 != 0||(((jy s).1.length:Int)==0) then ([],[],60) else ((jy s).1.getLast?.getD [],Er (jy s).1.dropLast,0)
def ajr(s:Bytes)(hs:s.length<=100000):aq cY 109 [.str s] []=some (.tuple [.str (Eu s).1,.str (Eu s).2.1,.int .i64 (Eu s).2.2],[]):=by
 refine aI ?_;have q:=fun M=>k67 s hs M
 obtain⟨o1,o2⟩:=AN s;unfold Eu;generalize jy s=X at q o1 o2;obtain⟨l,e⟩:=X;simp only at q o1 o2 ⊢;cases h1:e != 0
 ·cases h2:(l.length:Int)==0
  ·obtain⟨A,x,rfl⟩:∃A x,l=A++[x]:=by
    refine⟨l.dropLast,l.getLast (by rintro rfl; simp at h2),(List.dropLast_concat_getLast _).symm⟩
   have qj:=fun M=>k88 A (by simp at o2; omega) (fun y hy=>rO (o1 y (by simp[hy]))) M
   simp only[aJ,av,aG,aP] at h2 o2;have w1:IntKind.i64.wrap (((A.length+1:Nat):Int)-1)=(A.length:Int):=by rw[gx (by omega) (by omega)]; omega
   have a1:(A++[x])[A.length]?=some x:=by simp
   have a2:((A.length:Int)<((A.length+1:Nat):Int))=True:=Az;have a3:((A.length:Int)<=((A.length+1:Nat):Int))=True:=Az;have a4:((A.length:Int)<0)=False:=by simp
   have a5:(A++[x]).take A.length=A:=by simp
   simp only[Lx,ZA,q,h1,h2,w1,a2,a3,a4,a1,<-j7,a5,qj,dE,gk,af,aw,List.getLast?_append,List.getLast?_singleton,List.dropLast_concat,bz,Option.or_some,Option.some_or,EW,seval]
  ·simp only[Lx,ZA,q,h1,h2,dG,da,aE,EW,seval]
 ·simp only[Lx,ZA,q,h1,dH,aE,EW,seval]
def akY s hs:=cP (ajr s hs)
def c24(t:Tree)(s:Bytes)(ht:Small t)(hs:s.length<=100000):aq cY 24 [bJ t,.str s] []=some (.tuple [.int .i64 (sq t.ae s).1,.int .i64 (sq t.ae s).2],[]):=by
 refine aI ?_;have q:=fun M=>k67 s hs M
 obtain⟨o1,o2⟩:=AN s;unfold sq;generalize jy s=X at q o1 o2;obtain⟨l,e⟩:=X;simp only at q o1 o2 ⊢;cases h1:e != 0<;>simp only[af5,E24,bJ,bc,q,h1,af,aw,aE,EW,seval]
 refine pj (xs:=l) (by omega) (vI t.ae) (fun a i=>[(2,.ptr 0 0),(6,fL l),(8,.int .i64 a),(9,.int .i64 i)]) (fun _=>[.cells [aZ t.ae,.int .i64 t.next,.int .i64 t.ai]]) (fun p=>some (.tuple [.int .i64 p.1,.int .i64 p.2],([]:aK))) (fun a=>?_) (fun pre x post a h hx cr hw h0 hm hi=>?_) 1
 ·simp only[E24,bf,vI,EW,seval]
 ·have ql:=fun M=>k56 t.ae t.next t.ai a x ht (by have:=rO (o1 x hm); omega) M
  rw[vI];have i1:=hi (dR t.ae a x).1;generalize dR t.ae a x=u at ql i1;cases h2:u.2 != 0<;>simp only[E24,cr,hx,hw,ql,h2,af,aw,aE,EW,seval]
  exact i1
def k24(ae:List Node)(next ai:Int)(s:Bytes)(ht:Small ⟨ae,next,ai⟩)(hs:s.length<=100000)(M:aK):aL (aq cY) 24 [.agg [aZ ae,.int .i64 next,.int .i64 ai],.str s] M=some (.tuple [.int .i64 (sq ae s).1,.int .i64 (sq ae s).2],M):=cO (c24 ⟨ae,next,ai⟩ s ht hs) M
end
def An(z:Int)(es:List ew)(s:Nat×Int)(e:ew):Nat×Int:=(s.1+1,if !decide (e.ai<z)&&(decide (s.2<0)||decide (e.ai<(es.getD s.2.toNat yM).ai)) then (s.1:Int) else s.2)
def NV(z:Int)(es:List ew):re z es=(es.foldl (An z es) (0,-1)).2:=rfl
def Ii(z:Int)(es:List ew):∀(r:List ew)(s:Nat×Int),(r.foldl (An z es) s).1=s.1+r.length
 | [],s=>rfl
 |x::r,s=>by rw[bA,Ii z es r]; simp only[An,av]; omega
section
attribute [local irreducible] fP fi kD gK dp kr aq aL ct bI
section
variable {t:Tree} {n:Node} {many:Int} {R:Option (ag×aK)}
abbrev liM(t:Tree)(n:Node)(out:List ew):aK:=[.cells [aZ t.ae,.int .i64 t.next,.int .i64 t.ai],.cells [.int .i64 n.au,.int .i64 n.kind,.int .i64 n.dj,jo n.data,ib n.aM,.int .i64 n.up],.tick 3 out.length]
def Ig(hn:n.aM.length<=100000){mT:Int}{out:List ew}{k:List K}
  (hx:∀z,kr (aq cY) [.tmp 8,.tmp 9,.tmp 10] 0 k ⟨.exit 2,(2,.int .i64 mT)::(3,.int .i64 many)::(11,.ptr 1 0)::(13,.slice (.own 2) (out.map gh))::(14,.int .i64 (re mT n.aM))::z,liM t n out⟩=R) :
  fP (aq cY) [.tmp 8,.tmp 9,.tmp 10] 0 k (.loop [2,3,11,13,14,15] VN) [(2,.int .i64 mT),(3,.int .i64 many),(11,.ptr 1 0),(13,.slice (.own 2) (out.map gh)),(14,.int .i64 (-1)),(15,.int .i64 0)] (liM t n out)=R:=by
 refine gA (xs:=n.aM) (by omega) (fun j (b:Int)=>b=((n.aM.take j).foldl (An mT n.aM) (0,-1)).2/\(b = -1\/∃i:Nat,i<n.aM.length/\b=i)) (fun _ (_:Int)=>()) (fun b i=>[(2,.int .i64 mT),(3,.int .i64 many),(11,.ptr 1 0),(13,.slice (.own 2) (out.map gh)),(14,.int .i64 b),(15,.int .i64 i)]) (fun _=>liM t n out) (fun _=>R) (fun b hb=>?_) (fun pre e post b h hx' cr hw h0 hm hb hi=>?_) (-1) ⟨rfl,.inl rfl⟩
 ·obtain⟨hb,-⟩:=hb;rw[cQ,<-NV] at hb;subst hb;simp only[vV,bf,EW,seval];exact hx _
 ·obtain⟨hb1,hb2⟩:=hb;have hp:=(aC.1 hx').1;have hl:((n.aM.take pre.length).foldl (An mT n.aM) (0,-1)).1=pre.length:=by rw[Ii,gb]; simp only; omega
  have ht:((n.aM.take (pre.length+1)).foldl (An mT n.aM) (0,-1)).2=(An mT n.aM (pre.length,b) e).2:=by
   rw[dz,hx',jk];simp only[Option.toList,bA,gN];rw[show((n.aM.take pre.length).foldl (An mT n.aM) (0,-1))=(pre.length,b) from fC hl hb1.symm]
  rcases hb2 with rfl|⟨a,ha,rfl⟩
  ·cases h1:decide (e.ai<mT)
   ·have i1:=hi pre.length ⟨by rw[ht]; simp[An,h1],.inr ⟨_,hp,rfl⟩⟩
    have h1':decide (mT<=e.ai)=true:=by simpa using h1
    simp only[vV,cr,hx',hw,h0,h1,h1',gh,eo,EW,seval];exact i1
   ·have i1:=hi (-1) ⟨by rw[ht]; simp[An,h1],.inl rfl⟩
    have h1':decide (mT<=e.ai)=false:=by simpa using h1
    simp only[vV,cr,hx',hw,h0,h1,h1',gh,eo,EW,seval];exact i1
  ·have a0:((a:Int)<0)=False:=by simp
   have a1:((a:Int)<(n.aM.length:Int))=True:=Az;obtain⟨y,hy⟩:∃y,n.aM[a]?=some y:=⟨_,aj ha⟩;have hg:n.aM.getD a yM=y:=by rw[fp,hy]; rfl
   cases h1:decide (e.ai<mT)
   ·have h1':decide (mT<=e.ai)=true:=by simpa using h1
    cases h2:decide (e.ai<y.ai)
    ·have i1:=hi a ⟨by rw[ht]; simp[An,h1,hy]; simp at h2; omega,.inr ⟨_,ha,rfl⟩⟩
     simp only[vV,cr,hx',hw,h0,a0,a1,hy,h1,h1',h2,gh,eo,EW,seval];exact i1
    ·have i1:=hi pre.length ⟨by rw[ht]; simp[An,h1,hy]; simp at h2; omega,.inr ⟨_,hp,rfl⟩⟩
     simp only[vV,cr,hx',hw,h0,a0,a1,hy,h1,h1',h2,gh,eo,EW,seval];exact i1
   ·have h1':decide (mT<=e.ai)=false:=by simpa using h1
    have i1:=hi a ⟨by rw[ht]; simp[An,h1],.inr ⟨_,ha,rfl⟩⟩
    cases h2:decide (e.ai<y.ai) <;>
    simp only[vV,cr,hx',hw,h0,a0,a1,hy,h1,h1',h2,gh,eo,EW,seval]<;>exact i1
def SJ(hn:n.aM.length<=64)(hnd:(n.aM.map ew.ai).Nodup)(hck:∀e,e∈n.aM->0<=e.ai/\e.ai<1099511627776){m:Nat}(hm:1<=m)(hm':m<=64){F:List ew}{k:List K}
  (hr:∀(out:List ew)(x:Int),out=(if (F.length:Int)<=m then F else F.take m)->x=(if (F.length:Int)<=m then 0 else mG ((F.getD (m-1) yM).ai+1))->kr (aq cY) [.tmp 8,.tmp 9,.tmp 10] 0 k ⟨.ret,[(8,.slice (.own 2) (out.map gh)),(9,.int .i64 x),(10,.int .i64 0)],liM t n out⟩=R) :
  ∀(d:Nat)(mT:Int)(out:List ew),out.length+d=m->out++mO (je mT n.aM)=F->fP (aq cY) [.tmp 8,.tmp 9,.tmp 10] 0 k (.loop [2,3,11,13] VO) [(2,.int .i64 mT),(3,.int .i64 m),(11,.ptr 1 0),(13,.slice (.own 2) (out.map gh))] (liM t n out)=R:=by
 intro d;induction d with
 |zero =>
  intro mT out hd hF;rw[bX];have la:=fun {k} hx=>Ig (t:=t) (n:=n) (many:=m) (R:=R) (by omega) (mT:=mT) (out:=out) (k:=k) hx
  simp only[vV,EW,seval];refine la (fun z=>?_)
  rcases lU (re mT n.aM) 0 with hb|hb
  ·have hs:=IT hb;have h1:(re mT n.aM<0)=True:=by simpa using hb
   rw[hs,bV] at hF;subst hF;simp only[vV,h1,EW,seval];exact hr out 0 (by rw[az (by omega)]) (by rw[az (by omega)])
  ·obtain⟨e,he,h1,h2,h3⟩:=Dp hnd hb;have a0:(re mT n.aM<0)=False:=by simpa using hb
   have e1:((out.length:Int)==(m:Int))=true:=by simp; omega
   have w1:IntKind.i64.wrap ((m:Int)-1)=((m-1:Nat):Int):=by rw[gx (by omega) (by omega)]; omega
   have e2:(((m-1:Nat):Int)<(out.length:Int))=True:=Az;have e3:(((m-1:Nat):Int)<0)=False:=by simp
   have hy:=aj (show m-1<out.length by omega)
   rw[h3] at hF;have cr:¬((F.length:Int)<=m):=by rw[<-hF]; simp; omega
   have hFt:F.take m=out:=by rw[<-hF,gq (by omega),cj (by omega)]
   have hg:F.getD (m-1) yM=out[m-1]:=by rw[fp,<-hF,bj (by omega),hy]; rfl
   simp only[vV,a0,e1,w1,e2,e3,hy,gh,eo,EW,seval];exact hr out _ (by rw[ak cr,hFt]) (by rw[ak cr,hg])
 |succ d ih =>
  intro mT out hd hF;rw[bX];have la:=fun {k} hx=>Ig (t:=t) (n:=n) (many:=m) (R:=R) (by omega) (mT:=mT) (out:=out) (k:=k) hx
  simp only[vV,EW,seval];refine la (fun z=>?_)
  rcases lU (re mT n.aM) 0 with hb|hb
  ·have hs:=IT hb;have h1:(re mT n.aM<0)=True:=by simpa using hb
   rw[hs,bV] at hF;subst hF;simp only[vV,h1,EW,seval];exact hr out 0 (by rw[az (by omega)]) (by rw[az (by omega)])
  ·obtain⟨e,he,h1,h2,h3⟩:=Dp hnd hb;have a0:(re mT n.aM<0)=False:=by simpa using hb
   obtain⟨a,ha⟩:∃a:Nat,re mT n.aM=(a:Int):=⟨(re mT n.aM).toNat,by omega⟩
   rw[ha] at he a0 ⊢;rw[bg] at he;have ha':=aF he;have a1:((a:Int)<(n.aM.length:Int))=True:=Az;have e1:((out.length:Int)==(m:Int))=false:=by simp; omega
   have r1:dL (out.length+1) 32=True:=xN;have hc:=hck e h2;have w1:IntKind.i64.wrap (e.ai+1)=e.ai+1:=gx (by omega) (by omega)
   rw[h3] at hF;have i1:=ih (e.ai+1) (out++[e]) (by simp; omega) (by rw[<-hF]; simp)
   simp only[liM,bB,aV,bo,aJ,av,aG,aP,gh,eo] at i1 ⊢;simp only[vV,a0,a1,e1,r1,he,w1,gh,eo,EW,seval];exact i1
end
def JQ{t:Tree}{cf:Int->Nat}(h:cn t cf 0)(au:Int):∀e,e∈(gw t.ae au).1.aM->0<=e.ai/\e.ai<1099511627776:=by
 have hc:=h.ai;unfold gw;cases hi:find t.ae au with
 |none=>intro e he; simp[Node.zero] at he
 |some n =>
  simp only;split
  ·intro e he;have:=h.wB _ _ e hi he;omega
  ·intro e he; simp[Node.zero] at he
def ajq(t:Tree)(ht:Rt t)(au z m:Int):aq cY 108 [bJ t,.int .i64 au,.int .i64 z,.int .i64 m] []=some (.tuple [ib (pZ t au z m).1,.int .i64 (pZ t au z m).2.1,.int .i64 (pZ t au z m).2.2],[]):=by
 refine aI ?_;have qd:=fun M=>Vz t.ae t.next t.ai au (by have:=ht.sz.ae; omega) M
 obtain⟨cf,h⟩:=ht;obtain⟨hnd,h64⟩:=zX h au;have hck:=JQ h au;unfold pZ Bb;generalize gw t.ae au=v at qd hnd h64 hck ⊢;cases h1:decide (z<0)
 case true =>
  simp only[CD,vV,bJ,bc,h1,dH,aE,EW,seval];rfl
 cases h2:decide (m<1)
 case true =>
  simp only[CD,vV,bJ,bc,h1,h2,dH,dG,aE,EW,seval];rfl
 cases h3:decide (64<m)
 case true =>
  simp only[CD,vV,bJ,bc,h1,h2,h3,dG,aE,EW,seval];rfl
 cases h4:v.2 != 0
 case true =>
  simp only[CD,vV,bJ,bc,ck,aU,qd,h1,h2,h3,h4,dE,af,aE,aw,EW,seval];rfl
 simp only[dk] at h2 h3;obtain⟨M,rfl⟩:∃M:Nat,m=M:=⟨m.toNat,by omega⟩
 have g2:decide ((M:Int)<1)=false:=by simp; omega
 have g3:decide (64<(M:Int))=false:=by simp; omega
 have lb:=fun {k R} hr=>SJ (t:=t) (n:=v.1) (R:=R) h64 hnd hck (m:=M) (by omega) (by omega) (F:=mO (je z v.1.aM)) (k:=k) hr M z [] (by simp) rfl
 simp only[liM,bo,aG] at lb;generalize mO (je z v.1.aM)=F at lb ⊢;simp only[CD,vV,bJ,bc,ck,aU,qd,h1,g2,g3,h4,dE,af,aw,bt,bg,EW,seval];refine lb (fun out x ho hx=>?_)
 subst ho; subst hx;simp only[vV,EW,seval];split<;>rfl
def akX(t:Tree)(ht:Rt t)(au z m:Int)(M:aK):aL (aq cY) 108 [.agg [aZ t.ae,.int .i64 t.next,.int .i64 t.ai],.int .i64 au,.int .i64 z,.int .i64 m] M=some (.tuple [ib (pZ t au z m).1,.int .i64 (pZ t au z m).2.1,.int .i64 (pZ t au z m).2.2],M) :=
 cO (ajq t ht au z m) M
def aji(a b:Bytes):(a != b) = !decide (a=b):=by rw[eb]; simp
def Ws{a b:List Bytes}(ha:a.length<=100000){k:List K}{R:Bool->Option (ag×aK)}
  (hx:∀e,kr (aq cY) [.tmp 4] 0 k ⟨.exit 0,e,[]⟩=R true) (hr:kr (aq cY) [.tmp 4] 0 k ⟨.ret,[(4,.bool false)],[]⟩=R false) :
  ∀(l m pre pre':List Bytes),a=pre++l->b=pre'++m->pre.length=pre'.length->l.length=m.length->fP (aq cY) [.tmp 4] 0 k (.loop [0,1,12,13] V4) [(0,fL a),(1,fL b),(12,.int .i64 a.length),(13,.int .i64 pre.length)] []=R (decide (l=m)):=by
 intro l;induction l with
 |nil =>
  intro m pre pre' h h' hp hl;have hm:m=[]:=cq.1 hl.symm;subst hm;rw[bX];simp only[Fz,ot h,EW,seval];exact hx _
 |cons n r ih =>
  intro m pre pre' h h' hp hl;cases m with
  |nil=>cases hl
  |cons n' m =>
  rw[bX];have eU:pre.length+1<=100000:=by rw[h] at ha; simp at ha; omega
  have hw:=GD pre n;have hi:=ih m (pre++[n]) (pre'++[n']) (by rw[h]; simp) (by rw[h']; simp) (by simp[hp]) (by simpa using hl)
  have ha2:b[pre.length]?=some n':=by rw[hp]; exact jf h'
  have hdc:decide (n::r=n'::m)=(decide (n=n')&&decide (r=m)):=by
   rw[eb]; simp
  rw[hdc];simp only[aJ,av,aG] at hi;simp only[Fz,mM h,jf h,ha2,aji,EW,seval];refine bK (fun hb=>?_) (fun hb=>?_)
  ·have hb':decide (n=n')=false:=by simpa using hb
   simp only[Fz,hb',cd,EW,seval];exact hr
  ·have hb':decide (n=n')=true:=by simpa using hb
   simp only[Fz,hb',bP,hw,EW,seval];exact hi
def akb(a b:List Bytes)(ha:a.length<=100000):aq cY 195 [fL a,fL b] []=some (.bool (decide (a=b)),[]):=by
 refine aI ?_;simp only[YA,Fz,EW,seval];refine bK (fun hb=>?_) (fun hb=>?_)
 ·have:decide (a=b)=false:=by
   simp at hb ⊢;rintro rfl; exact hb rfl
  simp only[Fz,this,EW,seval]
 ·simp only[Fz,EW,seval];exact Ws (R:=fun z=>some (.bool z,[])) ha (fun e=>by simp only[Fz,EW,seval]) (by simp only[Fz,EW,seval]) a b [] [] rfl rfl rfl (by simp at hb; omega)
def alp a b ha:=cP (akb a b ha)
def ajG(a b:Bytes)(ha:a.length<=100000)(hb:b.length<=100000):aq fO 130 [.str a,.str b] []=some (.bool (jJ a b),[]):=by
 refine aI ?_;have q1:=k63 a ha;have q2:=k63 b hb;have l1:(bw a).1.length<=100000:=by have:=(lx a).2; omega
 have q3:=fun y M=>lS (alp (bw a).1 y l1 M)
 simp only[X6,OZ,q1,q2,EW,seval];unfold jJ;cases h1:(bw a).2==0
 ·simp only[OZ,h1,cd,EW,seval]
 cases h2:(bw b).2==0
 ·simp only[OZ,h1,h2,cd,dI,bP,EW,seval]
 cases h3:decide (((bw a).1.length:Int)<=(bw b).1.length)
 ·have hp:(bw a).1.isPrefixOf (bw b).1=false:=by
   rw[lZ];intro hc;have:=(iU.1 hc).length_le;simp at h3;omega
  simp only[OZ,h1,h2,h3,hp,cd,dI,bP,EW,seval]
 ·have hp:(bw a).1.isPrefixOf (bw b).1=decide ((bw a).1=(bw b).1.take (bw a).1.length):=by
   rw[eb,iU,bt,List.prefix_iff_eq_take]
  have hl:(bw a).1.length<=(bw b).1.length:=by simp at h3; omega
  have q4:∀M,aL (aq fO) 195 [fL (bw a).1,.slice .sh (List.take (bw a).1.length (List.map ag.str (bw b).1))] M=some (.bool (decide ((bw a).1=(bw b).1.take (bw a).1.length)),M):=fun M=>by
   rw[<-j7]; exact q3 _ M
  have h4:(((bw a).1.length:Int)<=((bw b).1.length:Int))=True:=by simpa using h3
  simp only[OZ,h1,h2,h3,h4,hp,q4,cd,dI,bP,EW,seval]
def agY a b ha hb:=cP (ajG a b ha hb)
def ajE(s:Bytes)(hs:s.length<=100000):aq fO 127 [.str s] []=some (.int .i64 (bw s).2,[]):=by
 refine aI ?_;have q1:=k63 s hs;simp only[X4,aiw,q1,EW,seval]
def Qz s hs:=cP (ajE s hs)
def Nw(n:Int):Bool:=decide (n>=0)&&decide (n<8)
def ajM(n:Int):aq cY 140 [.int .i64 n] []=some (.bool (Nw n),[]):=by
 refine aI ?_;unfold Nw;cases h1:decide (n>=0)<;>cases h2:decide (n<8)<;>simp only[Ye,aiD,h1,h2,eS,dI,bP,cd,EW,seval]
def aa3 n:=cP (ajM n)
def c77(g:Int):aq cY 77 [.int .i64 g] []=some (bH [⟨[47],g,1⟩],[]):=by
 refine aI ?_;simp only[agz,E77,EW,seval];rfl
def lB(q:Piece->Bool):List Piece->Int->List Int
 | [],_=>[]
 |p::r,i=>if q p then i::lB q r (i+1) else lB q r (i+1)
def zA(l:List Int):wid (l.map mj) 1=True:=mB mj _ (fun _=>rfl) l
def ajF(p:Piece)(s:Bytes)(hp:p.aR.length<=100000)(hs:s.length<=100000):aq fO 129 [dn p,.ptr 0 0] [.cells [.str s]]=some (.bool (jJ p.aR s),[.cells [.str s]]):=by
 refine aI ?_;have q1:=agY p.aR s hp hs;simp only[X5,aix,dn,cL,q1,EW,seval]
def SN{xs:List Piece}{s:Bytes}(hn:xs.length<=100000)(hp:∀p,p∈xs->p.aR.length<=100000)(hs:s.length<=100000){k:List K}{R:List Int->Option (ag×aK)}
  (hx:∀(out:List Int) e,kr (aq fO) [.tmp 4] 1 k ⟨.exit 0,(1,.func 129 [.ptr 0 0])::(5,.slice (.own 1) (out.map mj))::e,[.cells [.str s],.tick 1 out.length]⟩=R out) :
  ∀(l pre:List Piece)(out:List Int),xs=pre++l->out.length<=pre.length->fP (aq fO) [.tmp 4] 1 k (.loop [1,5,8,9,10] LX) [(1,.func 129 [.ptr 0 0]),(5,.slice (.own 1) (out.map mj)),(8,bH xs),(9,.int .i64 xs.length),(10,.int .i64 pre.length)] [.cells [.str s],.tick 1 out.length] =
   R (out++lB (fun p=>jJ p.aR s) l pre.length):=by
 intro l;induction l with
 |nil =>
  intro pre out h ho;rw[bX];simp only[GH,ot h,lB,bV,EW,seval];exact hx _ _
 |cons p rest ih =>
  intro pre out h ho;rw[bX];have eU:pre.length+1<=100000:=by rw[h] at hn; simp at hn; omega
  have hw:=GD pre p;have hi1:=ih (pre++[p]) out (by rw[h]; simp) (by simp; omega)
  have hi2:=ih (pre++[p]) (out++[(pre.length:Int)]) (by rw[h]; simp) (by simp; omega)
  simp only[aJ,av,aG,aP,bB,aV,bo] at hi1 hi2;have r1:dL (out.length+1) 8=True:=xN
  have q1:∀M,nth M 0=some (.cells [.str s])->aL (aq fO) 129 [.agg (cL p),.ptr 0 0] M=some (.bool (jJ p.aR s),M) :=
   fun M hM=>Ln (f:=129) (p:=0) (vs:=[.agg (cL p)]) hM (ajF p s (hp p (by rw[h]; simp)) hs) rfl rfl rfl rfl rfl rfl rfl rfl rfl
  simp only[cL] at q1;simp only[lB];rcases Bool.eq_false_or_eq_true (jJ p.aR s) with he|he<;>simp only[he,GH,mM h,jf h,dn,cL,q1,hw,r1,zA,zB,aE,af,aw,EW,seval]
  ·simpa[mj] using hi2
  ·simpa using hi1
def afA(xs:List Piece)(s:Bytes)(hn:xs.length<=100000)(hp:∀p,p∈xs->p.aR.length<=100000)(hs:s.length<=100000):aq fO 128 [bH xs,.func 129 [.ptr 0 0]] [.cells [.str s]]=some (lM (lB (fun p=>jJ p.aR s) xs 0),[.cells [.str s]]):=by
 refine aI ?_;simp only[Ly,GH,EW,seval];exact SN hn hp hs (R:=fun out=>some (lM out,[.cells [.str s]])) (fun out e=>by simp only[GH,EW,seval]) xs [] [] rfl (ar _)
def akw(p:Piece)(s:Bytes)(hp:p.aR.length<=100000)(hs:s.length<=100000):aq fO 251 [dn p,.ptr 0 0] [.cells [.str s]]=some (.bool (jJ s p.aR),[.cells [.str s]]):=by
 refine aI ?_;have q1:=agY s p.aR hs hp;simp only[YR,aiY,dn,cL,q1,EW,seval]
def SL{xs:List Piece}{s:Bytes}(hn:xs.length<=100000)(hp:∀p,p∈xs->p.aR.length<=100000)(hs:s.length<=100000){k:List K}{R:List Int->Option (ag×aK)}
  (hx:∀(out:List Int) e,kr (aq fO) [.tmp 4] 1 k ⟨.exit 0,(1,.func 251 [.ptr 0 0])::(5,.slice (.own 1) (out.map mj))::e,[.cells [.str s],.tick 1 out.length]⟩=R out) :
  ∀(l pre:List Piece)(out:List Int),xs=pre++l->out.length<=pre.length->fP (aq fO) [.tmp 4] 1 k (.loop [1,5,8,9,10] LX) [(1,.func 251 [.ptr 0 0]),(5,.slice (.own 1) (out.map mj)),(8,bH xs),(9,.int .i64 xs.length),(10,.int .i64 pre.length)] [.cells [.str s],.tick 1 out.length] =
   R (out++lB (fun p=>jJ s p.aR) l pre.length):=by
 intro l;induction l with
 |nil =>
  intro pre out h ho;rw[bX];simp only[GH,ot h,lB,bV,EW,seval];exact hx _ _
 |cons p rest ih =>
  intro pre out h ho;rw[bX];have eU:pre.length+1<=100000:=by rw[h] at hn; simp at hn; omega
  have hw:=GD pre p;have hi1:=ih (pre++[p]) out (by rw[h]; simp) (by simp; omega)
  have hi2:=ih (pre++[p]) (out++[(pre.length:Int)]) (by rw[h]; simp) (by simp; omega)
  simp only[aJ,av,aG,aP,bB,aV,bo] at hi1 hi2;have r1:dL (out.length+1) 8=True:=xN
  have q1:∀M,nth M 0=some (.cells [.str s])->aL (aq fO) 251 [.agg (cL p),.ptr 0 0] M=some (.bool (jJ s p.aR),M) :=
   fun M hM=>Ln (f:=251) (p:=0) (vs:=[.agg (cL p)]) hM (akw p s (hp p (by rw[h]; simp)) hs) rfl rfl rfl rfl rfl rfl rfl rfl rfl
  simp only[cL] at q1;simp only[lB];rcases Bool.eq_false_or_eq_true (jJ s p.aR) with he|he<;>simp only[he,GH,mM h,jf h,dn,cL,q1,hw,r1,zA,zB,aE,af,aw,EW,seval]
  ·simpa[mj] using hi2
  ·simpa using hi1
def afz(xs:List Piece)(s:Bytes)(hn:xs.length<=100000)(hp:∀p,p∈xs->p.aR.length<=100000)(hs:s.length<=100000):aq fO 128 [bH xs,.func 251 [.ptr 0 0]] [.cells [.str s]]=some (lM (lB (fun p=>jJ s p.aR) xs 0),[.cells [.str s]]):=by
 refine aI ?_;simp only[Ly,GH,EW,seval];exact SL hn hp hs (R:=fun out=>some (lM out,[.cells [.str s]])) (fun out e=>by simp only[GH,EW,seval]) xs [] [] rfl (ar _)
end
def Mj(s:Bytes):ke [.cells [.str s]] (iC [0]) [0]=some [.cells [.str s]]:=rfl
def Lb(q:Piece->Bool):∀(l:List Piece)(i:Int),(lB q l i).length<=l.length
 | [],_=>ar _
 |p::r,i=>by
  have:=Lb q r (i+1);rw[lB];split<;>simp only[av]<;>omega
def GY(s:Bytes):∀(l:List Piece)(i b:Nat),((b:Int)::lB (fun p=>jJ p.aR s) l i)[(lB (fun p=>jJ p.aR s) l i).length]?=some ((qk s l i b:Nat):Int)
 | [],i,b=>rfl
 |p::r,i,b=>by
  have h:=fun b=>GY s r (i+1) b
  simp only[Int.natCast_add,Int.cast_ofNat_Int] at h;rw[lB,qk]
  by_cases hp:jJ p.aR s=true
  ·rw[az hp,az hp]; exact h i
  ·rw[ak hp,ak hp]; exact h b
section
attribute [local irreducible] fP fi kD gK dp kr aq aL ct bI
def GF(l:List Piece)(s:Bytes):Int×Int:=if (bw s).2=0 then ((df l s:Nat),0) else (0,(bw s).2)
def ZT{l:List Piece}(hl:jS l){s:Bytes}(hs:(bw s).2=0):0<(lB (fun p=>jJ p.aR s) l 0).length:=by
 obtain⟨p,r,rfl,hp⟩:=hl.fst;rw[lB,az (by simp only[hp]; exact B6 hs)]
 simp
def c64{l:List Piece}(hl:jS l)(hp:∀p,p∈l->p.aR.length<=100000)(s:Bytes)(hs:s.length<=100000):aq fO 64 [bH l,.str s] []=some (.tuple [.int .i64 (GF l s).1,.int .i64 (GF l s).2],[]):=by
 refine aI ?_;have q1:=Qz s hs;have hk:aL (aq fO) 128 [bH l,.func 129 [.ptr 0 0]] [.cells [.str s]]=some (lM (lB (fun p=>jJ p.aR s) l 0),[.cells [.str s]]):=lL (ids:=[0]) rfl rfl (Mj s) rfl rfl (afA l s (by have:=hl.many; omega) hp hs) rfl rfl rfl rfl rfl
 unfold GF
 by_cases h:(bw s).2=0
 ·have h0:=ZT hl h;have h1:=GY s l 0 0;have h2:(lB (fun p=>jJ p.aR s) l 0).length<=1000000:=by have:=Lb (fun p=>jJ p.aR s) l 0; have:=hl.many; omega
  have h3:(lB (fun p=>jJ p.aR s) l 0)[(lB (fun p=>jJ p.aR s) l 0).length-1]?=some ((df l s:Nat):Int):=by
   obtain⟨n,hn⟩:∃n,(lB (fun p=>jJ p.aR s) l 0).length=n+1:=⟨_,(Nat.succ_pred_eq_of_pos h0).symm⟩
   have h4:((0:Nat):Int)=0:=rfl;rw[h4,hn,dy] at h1;rw[hn,Nat.add_sub_cancel]; exact h1
  generalize (lB (fun p=>jJ p.aR s) l 0)=A at *
  have h5:IntKind.i64.wrap ((A.length:Int)-1)=((A.length-1:Nat):Int):=by rw[gx (by omega) (by omega)]; omega
  have h6:(((A.length-1:Nat):Int)<0)=False:=by simp
  simp only[aaK,E64,q1,h,hk,h3,h5,h6,mj,aE,EW,seval]
 ·have hb:((bw s).2 != 0)=true:=by simpa using h
  simp only[aaK,E64,q1,hb,ak h,EW,seval]
def akg(p:Piece)(s:Bytes):aq cY 210 [dn p,.str s] []=some (.int .i64 (Lib.compareBytes p.aR s),[]):=by
 refine aI ?_;have q1:=aa2 p.aR s;simp only[YG,aiQ,dn,cL,q1,EW,seval]
def dQ(p:Piece):(dn p).cells=cL p:=rfl
def gr(p:Piece):(cL p).length=3:=rfl
def IZ(p:Piece):List.take 3 (cL p)=cL p:=rfl
def IL(p:Piece):List.map ag.shut (cL p)=cL p:=rfl
def ag5(p:Piece)(s:Bytes)(M:aK):aL (aq cY) 210 [.agg (cL p),.str s] M=some (.int .i64 (Lib.compareBytes p.aR s),M):=cO (akg p s) M
theorem Wv{xs:List Piece}{au:Bytes}{b:Nat}(hb:Low (fun x=>decide (Lib.compareBytes x.aR au<0)) xs b)(hn:xs.length<=100000){k:List K}{r:Option (ag×aK)}
  (hx:∀v q,kr (aq cY) [.tmp 6,.tmp 7] 0 k ⟨.exit 0,[(0,.slice .sh (xs.map dn)),(1,.str au),(2,.func 210 []),(8,.int .i64 xs.length),(9,.int .i64 b),(10,v),(17,q)],[]⟩=r) :
  ∀(f i j:Nat),j-i<=f->i<=b->b<=j->j<=xs.length->fP (aq cY) [.tmp 6,.tmp 7] 0 k (.loop [0,1,2,8,9,10] V6) [(0,.slice .sh (xs.map dn)),(1,.str au),(2,.func 210 []),(8,.int .i64 xs.length),(9,.int .i64 i),(10,.int .i64 j)] []=r:=by
 intro f;induction f with
 |zero =>
  intro i j h1 h2 h3 h4;obtain rfl:i=b:=by omega
  rw[bX];have cr:((i:Int)<(j:Int))=False:=by grind
  simp only[GJ,cr,EW,seval]
  grind
 |succ f ih =>
  intro i j h1 h2 h3 h4;rw[bX]
  by_cases hij:i<j
  ·have cr:((i:Int)<(j:Int))=True:=by grind
   obtain⟨m1,m2,m3,m4,m5⟩:=Kz i j (by omega) (by omega)
   have hmid:(i+j) / 2<xs.length:=by omega
   have hx:=aj hmid;have hl:=hb.lt _ _ hx;have hk:=fun x:Piece=>ag5 x au []
   simp only[GJ,cr,m1,m2,m3,m4,hx,hk,dQ,gr,IZ,IL,aE,EW,seval];refine bK (fun hq=>?_) (fun hq=>?_)
   ·simp only[GJ,m5,EW,seval];exact ih ((i+j) / 2+1) j (by omega) (hl.1 hq) h3 h4
   ·simp only[GJ,EW,seval];exact ih i ((i+j) / 2) (by omega) h2 (Nat.not_lt.1 fun h=>by rw[hl.2 h] at hq; cases hq) (by omega)
  ·obtain rfl:i=b:=by omega
   have cr:((i:Int)<(j:Int))=False:=by simp; omega
   simp only[GJ,cr,EW,seval];exact hx _ _
def akf(xs:List Piece)(au:Bytes)(b:Nat)(hb:Low (fun x=>decide (Lib.compareBytes x.aR au<0)) xs b)(hn:xs.length<=100000):aq cY 209 [bH xs,.str au,.func 210 []] []=some (.tuple [.int .i64 b,.bool (ug (fun x=>Lib.compareBytes x.aR au==0) xs b)],[]):=by
 refine aI ?_;simp only[YF,GJ,EW,seval];refine Wv hb hn (fun v q=>?_) xs.length 0 xs.length (by omega) (by omega) hb.le (by omega)
 have hk:=fun x:Piece=>ag5 x au []
 unfold ug
 by_cases cr:b<xs.length
 ·have hx:=aj cr;have h1:((b:Int)<(xs.length:Int))=True:=by simp; omega
  simp only[GJ,hx,h1,hk,dQ,gr,IZ,IL,aE,EW,seval]
 ·have hx:xs[b]?=none:=eG (by omega)
  have h1:((b:Int)<(xs.length:Int))=False:=by simp; omega
  simp only[GJ,hx,h1,EW,seval]
def ajV(xs:List Piece)(s:Bytes)(b:Nat)(hb:Low (fun x=>decide (Lib.compareBytes x.aR s<0)) xs b)(hn:xs.length<=100000):aq cY 157 [bH xs,.str s] []=some (.tuple [.int .i64 b,.bool (ug (fun x=>Lib.compareBytes x.aR s==0) xs b)],[]):=by
 refine aI ?_;have q:∀M,aL (aq cY) 209 [bH xs,.str s,.func 210 []] M=some (.tuple [.int .i64 b,.bool (ug (fun x=>Lib.compareBytes x.aR s==0) xs b)],M):=fun M=>cO (akf xs s b hb hn) M
 simp only[Yl,aiH,q,EW,seval]
def aa4 xs s b hb hn:=cP (ajV xs s b hb hn)
end
def qO(l:List Piece)(s:Bytes):Nat:=L6 (fun x=>decide (Lib.compareBytes x.aR s<0)) l
def uV(p:Piece)(r:List Piece)(s:Bytes):qO (p::r) s=if strLt p.aR s then qO r s+1 else 0:=by
 unfold qO L6;have:(decide (Lib.compareBytes p.aR s<0)=true)=(strLt p.aR s=true):=by rw[bt]; exact yY p.aR s
 rw[fb];simp only[this];split<;>rfl
def jS.low{l:List Piece}(h:jS l)(s:Bytes):Low (fun x=>decide (Lib.compareBytes x.aR s<0)) l (qO l s):=by
 refine SU (h.ju.imp ?_);intro a b hab hb;simp only[bt,yY] at hb ⊢;exact qK hab hb
def EB(s:Bytes):∀ {l l':List Piece},l'.map Piece.aR=l.map Piece.aR->qO l' s=qO l s
 | [],[],_=>rfl
 | [],_::_,h=>by cases h
 |_::_,[],h=>by cases h
 |p::r,p'::r',h=>by
  simp only[aV] at h;injection h with h1 h2
  rw[uV,uV,h1,EB s h2]
def LR(p:Piece):∀l:List Piece,xM l p=l.take (qO l p.aR)++p::l.drop (qO l p.aR)
 | []=>rfl
 |q::r=>by
  have ih:=LR p r;unfold xM at ih ⊢;rw[uV,fb,k7]
  by_cases hq:strLt q.aR p.aR=true
  ·rw[az hq,az hq,az hq,oe,n9,aW,aW,ih]
  ·rw[ak hq,ak hq,ak hq]; rfl
def WH(l:List Piece)(s:Bytes):qO l s<=l.length:=by
 induction l with
 |nil=>exact ar _
 |cons p r ih =>
  rw[uV];split<;>simp only[av]<;>omega
def u6(s:Bytes):∀ {l:List Piece},l.Pairwise (fun a b=>strLt a.aR b.aR=true)->rj l s=if ug (fun x=>Lib.compareBytes x.aR s==0) l (qO l s)=true then some (qO l s) else none
 | [],_=>rfl
 |p::r,h=>by
  obtain⟨h1,h2⟩:=bF.1 h;have ih:=u6 s h2;unfold rj at ih ⊢;rw[uV,List.findIdx?_cons]
  by_cases hp:strLt p.aR s=true
  ·have hne:(p.aR==s)=false:=by
    rw[bL]; rintro rfl; rw[ik] at hp; cases hp
   rw[hne,ak (by simp),az hp,ih]
   have:ug (fun x=>Lib.compareBytes x.aR s==0) (p::r) (qO r s+1)=ug (fun x=>Lib.compareBytes x.aR s==0) r (qO r s):=by unfold ug; simp
   rw[this];split<;>rfl
  ·rw[ak hp];have:ug (fun x=>Lib.compareBytes x.aR s==0) (p::r) 0=(p.aR==s):=by unfold ug; simp only[dU,FW]
   rw[this]
   by_cases he:(p.aR==s)=true
   ·rw[az he,az he]
   ·rw[ak he,ak he]
    have hall:∀q,q∈r->(q.aR==s)=false:=fun q hq=>by
     rw[bL]; rintro rfl; exact hp (h1 q hq)
    rw[List.findIdx?_eq_none_iff.2 hall]; rfl
def zH(q:Piece->Bool):∀(l:List Piece)(i:Int),(lB q l i).length=l.countP q
 | [],_=>rfl
 |p::r,i=>by
  rw[lB,List.countP_cons];split<;>simp only[av,zH q r (i+1)]
  ·omega
end Go.Proofs.YtcbopkblmebjiaaGreatDoor
namespace Go.Abs
open Go
def Vu{C:eL}{fn:eP}{d:Nat}{args:List ag}{M:aK}{x:ag×aK}(hl:args.length=fn.nparams)(h:fP C fn.results (M.length+d) [] fn.body (jY 0 args) M=some x)(hx:x.2.length=M.length+d):KN C fn d args M=some x :=
 aaX hl (by unfold fP at h; exact h) hx
end Go.Abs
namespace Go.Proofs.YtcbopkblmebjiaaGreatDoor
open Go Go.Abs
def tX(l:List Piece)(b:Nat)(c d:Piece)(o:Nat)(vs:List ag)(h:putCells (dn c) o vs=dn d):jZ (l.map dn) b (putCells (dn c) o vs)=(l.set b d).map dn:=by
 rw[h,fN,kR]
def TE(c:Piece)(e:Int):putCells (dn c) 2 [.int .i64 e]=dn { c with dJ:=e }:=rfl
def ah0(c:Piece)(g:Int):putCells (dn c) 1 [.int .i64 g]=dn { c with group:=g }:=rfl
def jS.On{l:List Piece}(h:jS l):∀p,p∈l->p.aR.length<=100000:=fun p hp=>by
 rw[h.join hp,<-ra];have:=uU (vT p) (C9 p.aR) (lx p.aR).2;omega
def qR{l:List Piece}{i:Nat}(h:i<l.length):l[i]?=some (mD l i):=by
 unfold mD; rw[aj h]; rfl
def adb(xs:List ag)(z:Int):ke [.cells [.int .i64 z],.arr 3 0 xs] (iC [1,0]) [1,0]=some [.arr 3 0 xs,.cells [.int .i64 z]]:=rfl
section
attribute [local irreducible] fP fi kD gK dp kr aq aL ct bI
def ajW{l:List Piece}{a:Nat}{p:Piece}(h:l[a]?=some p)(z:Int):aq cY 159 [.im 0 0 a 0,.ptr 1 0] [.arr 3 0 (l.map dn),.cells [.int .i64 z]]=some (.tuple [],[.arr 3 0 ((l.set a { p with dJ:=z }).map dn),.cells [.int .i64 z]]):=by
 refine aI ?_;simp only[Ym,aiJ,h,dQ,gr,ar,aE,tX l a p _ 2 _ (TE p z),EW,seval]
def ajY{l:List Piece}{a:Nat}{p:Piece}(h:l[a]?=some p)(z:Int)(hz:IntKind.i64.wrap (z+1)=z+1):aq cY 162 [.im 0 0 a 0,.ptr 1 0] [.arr 3 0 (l.map dn),.cells [.int .i64 z]]=some (.tuple [],[.arr 3 0 ((l.set a { p with dJ:=z+1 }).map dn),.cells [.int .i64 z]]):=by
 refine aI ?_;simp only[Yo,aiK,h,hz,dQ,gr,ar,aE,tX l a p _ 2 _ (TE p (z+1)),EW,seval]
def ake{l:List Piece}{a:Nat}{p:Piece}(h:l[a]?=some p)(z:Int)(hz:IntKind.i64.wrap (p.dJ+1)=p.dJ+1):aq cY 205 [.im 0 0 a 0,.ptr 1 0] [.arr 3 0 (l.map dn),.cells [.int .i64 z]]=some (.tuple [],[.arr 3 0 ((l.set a ⟨p.aR,z,p.dJ+1⟩).map dn),.cells [.int .i64 z]]):=by
 refine aI ?_;have ha:=(aC.1 h).1;have h2:(l.set a { p with group:=z })[a]?=some { p with group:=z }:=er ha
 have hc:(dn p).cells[2]?=some (.int .i64 p.dJ):=rfl;simp only[YC,aiO,h,h2,hz,dQ,gr,cL,ar,aE,tX l a p _ 1 _ (ah0 p z),tX _ a { p with group:=z } _ 2 _ (TE { p with group:=z } (p.dJ+1)),List.set_set,EW,seval]
def zV{g:Nat}{l l':List Piece}{a:Nat}(ha:a<l.length)(hn:l.length<=16)(z:Int)
  (hg:aq cY g [.im 0 0 a 0,.ptr 1 0] [.arr 3 0 (l.map dn),.cells [.int .i64 z]]=some (.tuple [],[.arr 3 0 (l'.map dn),.cells [.int .i64 z]])) :
  aq fO 158 [bH l,.int .i64 a,.func g [.ptr 0 0]] [.cells [.int .i64 z]]=some (.dg 1 0 3 0 l.length,[.cells [.int .i64 z],.arr 3 0 (l'.map dn)]):=by
 refine gy (g:=KN (aq cY) LA 1) rfl (Vu rfl ?_ rfl);have q1:=LH (f:=145) (sz:=3) (bytes:=32) dn rfl (fun _=>rfl) (by omega) (l:=l) (fun e=>by subst e; simp at ha) (by omega) [.cells [.int .i64 z]]
 have q2:aL (aq cY) g [.im 1 0 a 0,.ptr 0 0] [.cells [.int .i64 z],.arr 3 0 (l.map dn)]=some (.tuple [],[.cells [.int .i64 z],.arr 3 0 (l'.map dn)]):=lL (ids:=[1,0]) rfl rfl (adb _ z) rfl rfl hg rfl rfl rfl rfl rfl;have g1:((a:Int)<((l.length:Nat):Int))=True:=Az;simp only[av,aG,aP,aW,aX] at q1;simp only[LA,aiI,q1,q2,g1,bU,fz,bg,aP,av,aG,EW,seval]
def alw(l:List Piece)(hn:l.length<=16)(hp:∀p,p∈l->p.aR.length<=100000)(s:Bytes)(hs:s.length<=100000):∃r:List Int,r.length=kB l s/\∀M,aL (aq fO) 225 [bH l,.str s] M=some (lM r,M):=by
 have q1:=Qz s hs;have hk:aL (aq fO) 128 [bH l,.func 251 [.ptr 0 0]] [.cells [.str s]]=some (lM (lB (fun p=>jJ s p.aR) l 0),[.cells [.str s]]):=lL (ids:=[0]) rfl rfl (Mj s) rfl rfl (afz l s (by omega) hp hs) rfl rfl rfl rfl rfl
 by_cases h:(bw s).2=0
 ·refine⟨lB (fun p=>jJ s p.aR) l 0,zH _ _ _,fun M=>cO (aI ?_) M⟩
  simp only[Qg,ad0,q1,h,hk,EW,seval]
 ·have hb:((bw s).2 != 0)=true:=by simpa using h
  refine⟨[],?_,fun M=>cO (aI ?_) M⟩
  ·refine(List.countP_eq_zero.2 fun p _ ha=>h (mY.1 ha).1).symm
  ·simp only[Qg,ad0,q1,hb,aE,EW,seval];rfl
def k64{l:List Piece}(hl:jS l)(s:Bytes)(hs:s.length<=100000)(M:aK):aL (aq fO) 64 [bH l,.str s] M=some (.tuple [.int .i64 (GF l s).1,.int .i64 (GF l s).2],M) :=
 cO (c64 hl hl.On s hs) M
def wr1{e:Int}(h1:1<=e)(h2:e<=1099511627776):IntKind.i64.wrap (e+1)=e+1:=gx (by omega) (by omega)
def c91{l:List Piece}(hl:jS l)(s:Bytes)(hs:s.length<=100000)(to:Int):aq fO 91 [bH l,.str s,.int .i64 to] []=some (.tuple [bH (uK l s to).1,.int .i64 (uK l s to).2],[]):=by
 refine aI ?_;have hm:=hl.many;have q1:=fun M=>lS (aa3 to M)
 have q2:=k64 hl s hs;have q3:=fun M=>lS (aa4 l s (qO l s) (hl.low s) (by omega) M)
 have hgb:Nw to=mq to:=rfl;rw[hgb] at q1;unfold uK;rw[u6 s hl.ju];unfold GF at q2;cases hg:mq to<;>rw[hg] at q1
 ·simp only[HA,E91,q1,aE,EW,seval]
 simp only[Bool.true_eq_false,aw]
 by_cases he:(bw s).2=0
 ·have cr:=hl.rV he;have hok:=(hl.ok _ (p8 cr)).2;rw[az he] at q2;have hb:((bw s).2 != 0)=false:=by simp[he]
  simp only[hb,af,aw];cases hi:ug (fun x=>Lib.compareBytes x.aR s==0) l (qO l s)<;>rw[hi] at q3
  ·simp only[af,aw];have hx:=qR cr;cases h1:decide ((16:Int)<=l.length)
   ·cases h2:decide (1099511627776<=(mD l (df l s)).dJ)
    ·have hne:l≠[]:=fun e=>by subst e; simp at cr
     have h2':¬1099511627776<=(mD l (df l s)).dJ:=by simpa using h2
     have hw:=wr1 hok.2.2.1 hok.2.2.2;have hc:=zV (g:=159) cr hm ((mD l (df l s)).dJ+1) (ajW hx _);have hbl:(mR l (df l s) ((mD l (df l s)).dJ+1)).length=l.length:=by simp[mR]
     have hlow:qO (mR l (df l s) ((mD l (df l s)).dJ+1)) s=qO l s:=EB s (xh _ _ _);have hle:=WH l s;have hb2:l.set (df l s) { mD l (df l s) with dJ:=(mD l (df l s)).dJ+1 }=mR l (df l s) ((mD l (df l s)).dJ+1):=rfl
     rw[hb2] at hc;have hI:=lS' (Qn (f:=160) (sz:=3) (bytes:=32) dn rfl (by omega) (l:=mR l (df l s) ((mD l (df l s)).dJ+1)) (b:=qO l s) (id:=1) (v:=0) (by omega) (by omega) (.agg [.str s,.int .i64 to,.int .i64 ((mD l (df l s)).dJ+1)]) rfl [.cells [.int .i64 ((mD l (df l s)).dJ+1)],.arr 3 0 ((mR l (df l s) ((mD l (df l s)).dJ+1)).map dn)] rfl)
     rw[hbl] at hI;have hT:=Vv dn (l:=mR l (df l s) ((mD l (df l s)).dJ+1)) (b:=qO l s) (by omega) ⟨s,to,(mD l (df l s)).dJ+1⟩
     rw[hbl] at hT;have hins:=LR ⟨s,to,(mD l (df l s)).dJ+1⟩ (mR l (df l s) ((mD l (df l s)).dJ+1));simp only at hins;rw[hlow] at hins;rw[<-hins] at hT;simp only[dn,cL] at hT;have g0:(((df l s:Nat):Int)<0)=False:=by simp
     generalize mR l (df l s) ((mD l (df l s)).dJ+1)=B at hc hI hT hins ⊢;simp only[HA,E91,q1,q2,q3,h1,h2,hx,hw,hc,hI,hT,g0,dQ,gr,cL,bg,dE,af,aw,aE,EW,seval]
    ·have g0:(((df l s:Nat):Int)<0)=False:=by simp
     simp only[HA,E91,q1,q2,q3,h1,h2,hx,g0,dQ,gr,cL,bg,dG,af,aw,aE,EW,seval]
   ·simp only[HA,E91,q1,q2,q3,h1,dH,af,aw,aE,EW,seval]
  ·simp only[HA,E91,q1,q2,q3,aE,EW,seval]
 ·have hb:((bw s).2 != 0)=true:=by simpa using he
  rw[ak he] at q2;simp only[HA,E91,q1,q2,hb,aE,EW,seval]
end
end Go.Proofs.YtcbopkblmebjiaaGreatDoor
namespace Go.Proofs.YtcbopkblmebjiaaGreatDoor
open Go Go.Abs
def SY(a b:Int):(if a<b then b else a)=max a b:=by
 rw[Int.max_def]
 by_cases h:a<b
 ·rw[az h,az (by omega)]
 ·rw[ak h];split
  ·omega
  ·rfl
def LU{s:Bytes}(h:(bw s).2=0)(hne:s≠[47]):(bw (fy s).2.1).2=0:=by
 obtain⟨h1,h2⟩:=lx s;unfold fy
 have hl:(bw s).1≠[]:=fun e=>hne (by
  have:bw s=([],0):=fC e h;rw[uT this]; rfl)
 have h0:(((bw s).1.length:Int)==0)=false:=by
  rw[bL]; intro e;exact hl (cq.1 (by omega))
 rw[ak (by simp[h,h0])]
 simp only;rw[ra,kb (fun x hx=>h1 x (di hx)) (by simp; omega)]
section
attribute [local irreducible] fP fi kD gK dp kr aq aL ct bI
def Eo{l:List Piece}(hl:jS l){s:Bytes}(hi:ug (fun x=>Lib.compareBytes x.aR s==0) l (qO l s)=true):rj l s=some (qO l s):=by rw[u6 s hl.ju,az hi]
def ajQ{l:List Piece}(hl:jS l)(s:Bytes)(hs:s.length<=100000)(to:Int):aq fO 150 [bH l,.str s,.int .i64 to] []=some (.tuple [bH (mU l s to).1,.int .i64 (mU l s to).2],[]):=by
 refine aI ?_;have hm:=hl.many;have q1:=fun M=>lS (aa3 to M)
 have q2:=Qz s hs;have q3:=fun M=>lS (aa4 l s (qO l s) (hl.low s) (by omega) M)
 have hgb:Nw to=mq to:=rfl;rw[hgb] at q1;have hso:=fun hi=>Eo hl (s:=s) hi
 unfold mU;rw[u6 s hl.ju];cases hg:mq to<;>rw[hg] at q1
 ·simp only[CE,O2,q1,aE,EW,seval]
 simp only[Bool.true_eq_false,aw];cases hb:(bw s).2 != 0
 ·simp only[af,aw];cases hi:ug (fun x=>Lib.compareBytes x.aR s==0) l (qO l s)<;>rw[hi] at q3
  ·simp only[CE,O2,q1,q2,q3,hb,af,aw,EW,seval]
  ·obtain⟨p,hx,hps⟩:=pw (hso hi);have cr:=(aC.1 hx).1;have hat:mD l (qO l s)=p:=by unfold mD; rw[hx]; rfl
   have hok:=(hl.ok _ (aQ hx)).2;simp only[aE,hat];have g0:(((qO l s:Nat):Int)<0)=False:=by simp
   cases h2:decide (1099511627776<=p.dJ)
   ·have h2':¬1099511627776<=p.dJ:=by simpa using h2
    have hc:=zV (g:=205) cr hm to (ake hx to (wr1 hok.2.2.1 hok.2.2.2));have hT:List.take l.length ((l.set (qO l s) ⟨p.aR,to,p.dJ+1⟩).map dn)=(l.set (qO l s) ⟨s,to,p.dJ+1⟩).map dn:=by rw[hps]; exact cj (by simp)
    rw[ak h2'];simp only[CE,O2,q1,q2,q3,hb,h2,hx,hc,hT,g0,dQ,gr,cL,bg,af,aw,aE,EW,seval]
   ·have h2':1099511627776<=p.dJ:=by simpa using h2
    rw[az h2'];simp only[CE,O2,q1,q2,q3,hb,h2,hx,g0,dQ,gr,cL,bg,af,aw,aE,EW,seval]
 ·simp only[CE,O2,q1,q2,hb,aE,af,aw,EW,seval]
def c93{l:List Piece}(hl:jS l)(s:Bytes)(hs:s.length<=100000):aq fO 93 [bH l,.str s] []=some (.tuple [bH (lN l s).1,.int .i64 (lN l s).2],[]):=by
 refine aI ?_;have hm:=hl.many;have q2:=Qz s hs;have q3:=fun M=>lS (aa4 l s (qO l s) (hl.low s) (by omega) M)
 have q4:=aa5 s hs;have q5:=k64 hl (fy s).2.1 (by have:=tn s hs; omega)
 have hso:=fun hi=>Eo hl (s:=s) hi
 unfold lN;rw[u6 s hl.ju];cases hb:(bw s).2 != 0
 rotate_left
 ·simp only[J6,E93,q2,hb,aE,EW,seval]
 have hs0:(bw s).2=0:=by simpa using hb
 simp only[af,aw];cases hi:ug (fun x=>Lib.compareBytes x.aR s==0) l (qO l s)<;>rw[hi] at q3
 ·simp only[J6,E93,q2,q3,hb,af,aw,EW,seval]
 obtain⟨p,hx,hps⟩:=pw (hso hi);have cr:=(aC.1 hx).1;generalize qO l s=b at q3 hx cr ⊢;cases b with
 |zero =>
  simp only[J6,E93,q2,q3,hb,ga,aE,af,aw,EW,seval]
 |succ a =>
  have hne:s≠[47]:=fun e=>by
   obtain⟨p0,r,e0,h0⟩:=hl.fst;have:=hl.only (i:=a+1) (j:=0) hx (by rw[e0]; rfl) (by rw[hps,h0,e])
   omega
  have hlast:=LU hs0 hne;have hpar:=hl.rV hlast;unfold GF at q5;rw[az hlast] at q5;have hy:=qR hpar;have hok:=(hl.ok _ (aQ hx)).2;have hok2:=(hl.ok _ (p8 hpar)).2;have hat:mD l (a+1)=p:=by unfold mD; rw[hx]; rfl
  simp only[aE,hat];have g1:(((a+1:Nat):Int)==0)=false:=by rw[bL]; omega
  have g2:(((a+1:Nat):Int)<0)=False:=Gp;generalize df l (fy s).2.1=c at *;have g3:(((c:Nat):Int)<0)=False:=by simp
  have g4:IntKind.i64.wrap (((a+1:Nat):Int)+1)=((a+1+1:Nat):Int):=by rw[gx (by omega) (by omega)]; omega
  generalize he:max p.dJ (mD l c).dJ=e;have he2:=SY p.dJ (mD l c).dJ;rw[he] at he2;have hle:1<=e/\e<=1099511627776:=by rw[<-he,Int.max_def]; split<;>omega
  cases h2:decide (1099511627776<=e)
  ·have h2':¬1099511627776<=e:=by simpa using h2
   have hc:=zV (g:=162) hpar hm e (ajY hy e (wr1 hle.1 hle.2));have hb2:l.set c { mD l c with dJ:=e+1 }=mR l c (e+1):=rfl
   rw[hb2] at hc;have hbl:(mR l c (e+1)).length=l.length:=by simp[mR]
   have hD:=lS' (Qm (f:=163) (sz:=3) dn rfl (l:=mR l c (e+1)) (b:=a+1) (id:=1) (v:=0) (by omega) (by omega) [.cells [.int .i64 e],.arr 3 0 ((mR l c (e+1)).map dn)] rfl)
   have hT:=Va dn (l:=mR l c (e+1)) (b:=a+1) (by omega)
   rw[hbl] at hD hT;rw[ak h2'];generalize mR l c (e+1)=B at hc hD hT ⊢;simp only[J6,E93,q2,q3,q4,q5,hb,h2,hx,hy,g1,g2,g3,g4,he2,hc,hD,hT,dQ,gr,cL,bg,af,aw,aE,EW,seval]
   trace_state
  ·have h2':1099511627776<=e:=by simpa using h2
   rw[az h2'];simp only[J6,E93,q2,q3,q4,q5,hb,h2,hx,hy,g1,g2,g3,he2,dQ,gr,cL,bg,af,aw,aE,EW,seval]
end
def KQ(s:Bytes):List Piece->Nat->Int
 | [],_ => -1
 |p::r,i=>if p.aR==s then (i:Int) else KQ s r (i+1)
def BR(s:Bytes):∀(l:List Piece)(i:Nat),KQ s l i=match rj l s with
  |some a=>((i+a:Nat):Int)
  |none => -1
 | [],i=>rfl
 |p::r,i=>by
  have ih:=BR s r (i+1);unfold rj at ih ⊢;rw[KQ,List.findIdx?_cons];split
  ·rfl
  ·rw[ih];cases r.findIdx? fun p=>p.aR==s with
   |none=>rfl
   |some a=>exact congrArg (fun n:Nat=>(n:Int)) (show i+1+a=i+(a+1) by omega)
section
attribute [local irreducible] fP fi kD gK dp kr aq aL ct bI
def NQ(s:Bytes)(hs:s.length<=100000)(M:aK):aL (aq cY) 67 [.str s] M=some (.tuple [fL (bw s).1,.int .i64 (bw s).2],M):=by
 rw[<-tZ]; exact k67 s hs M
def k68(a b:Bytes)(ha:a.length<=100000)(hb:b.length<=100000)(M:aK):aL (aq cY) 68 [.str a,.str b] M=some (.bool (jJ a b),M):=by
 refine cO (aI ?_) M;have q1:=NQ a ha;have q2:=NQ b hb;unfold jJ;have hx1:=(lx a).2;generalize bw a=x at q1 hx1 ⊢;generalize bw b=y at q2 ⊢;obtain⟨x,e⟩:=x;obtain⟨y,e'⟩:=y;simp only at q1 q2 hx1 ⊢;cases h1:e==0
 ·have h1':(e != 0)=true:=by simpa using h1
  simp only[Qj,ZM,q1,q2,h1',cd,EW,seval]
 have h1':(e != 0)=false:=by simpa using h1
 cases h2:e'==0
 ·have h2':(e' != 0)=true:=by simpa using h2
  simp only[Qj,ZM,q1,q2,h1',h2',cd,dI,EW,seval]
 have h2':(e' != 0)=false:=by simpa using h2
 by_cases h3:y.length<x.length
 ·have h3':((y.length:Int)<(x.length:Int))=True:=Az
  have hp:x.isPrefixOf y=false:=by
   rw[lZ]; intro hc;have:=(iU.1 hc).length_le;omega
  simp only[Qj,ZM,q1,q2,h1',h2',h3',hp,aH,dI,EW,seval]
 ·have h3':((y.length:Int)<(x.length:Int))=False:=Gp;simp only[Qj,ZM,q1,q2,h1',h2',h3',aH,bP,EW,seval];refine gA (xs:=x) (by omega) (fun i (ys:List Bytes)=>ys=y.drop i) (fun post ys=>post.isPrefixOf ys) (fun _ i=>[(5,fL x),(7,fL y),(9,.int .i64 i)]) (fun _=>[]) (fun b=>some (ag.bool b,([]:aK))) (fun ys hy=>?_) (fun pre z post ys hh hz cr hw h0 hm hy hi=>?_) y rfl
  ·simp only[ZM,aH,bf,List.isPrefixOf,EW,seval]
  ·have hl:pre.length<y.length:=by have:=congrArg List.length hh; simp at this; omega
   have hy2:=aj hl;have hys:ys=y[pre.length]::y.drop (pre.length+1):=by rw[hy]; exact(cB hl)
   subst hys;have i1:=hi (y.drop (pre.length+1)) rfl;rw[List.isPrefixOf];cases hc:z==y[pre.length]
   ·have hc':(z != y[pre.length])=true:=by simpa using hc
    simp only[ZM,aH,cr,hz,hy2,hw,h0,hc',cd,EW,seval]
   ·have hc':(z != y[pre.length])=false:=by simpa using hc
    simp only[bP];simp only[ZM,aH,cr,hz,hy2,hw,h0,hc',EW,seval];exact i1
def aa6(l:List Piece)(hn:l.length<=1000)(s:Bytes)(M:aK):aL (aq cY) 206 [bH l,.str s] M=some (.int .i64 (KQ s l 0),M):=by
 refine cO (aI ?_) M;simp only[YD,UB,EW,seval];refine gA (xs:=l) (by omega) (fun i (k:Nat)=>k=i) (fun post k=>KQ s post k) (fun _ i=>[(0,bH l),(1,.str s),(5,.int .i64 i)]) (fun _=>[]) (fun z=>some (ag.int .i64 z,([]:aK))) (fun k hk=>?_) (fun pre x post k hh hx cr hw h0 hm hk hi=>?_) 0 rfl
 ·simp only[UB,aH,bf,KQ,EW,seval]
 ·subst hk;have i1:=hi (pre.length+1) rfl;rw[KQ];cases hc:x.aR==s
  ·simp only[af,aw];simp only[UB,aH,cr,hx,hw,h0,hc,dQ,gr,cL,EW,seval];exact i1
  ·simp only[UB,aH,cr,hx,hw,h0,hc,dQ,gr,cL,aE,EW,seval]
def k25{l:List Piece}(hl:jS l)(s:Bytes)(hs:s.length<=100000)(M:aK):aL (aq cY) 25 [bH l,.str s] M=some (.tuple [.int .i64 (GF l s).1,.int .i64 (GF l s).2],M):=by
 refine cO (aI ?_) M;have q1:=NQ s hs;have hm:=hl.many;unfold GF
 by_cases he:(bw s).2=0
 rotate_left
 ·have h60:(bw s).2=60:=by rcases vE s with h|h<;>rw[h] at he ⊢; exact absurd rfl he
  have hb:((bw s).2 != 0)=true:=by simpa using he
  rw[ak he];simp only[aaB,E25,q1,hb,h60,EW,seval]
 rw[az he];have hof:=KB hl he;unfold ofD at hof;rw[ak (by rw[tZ]; simp[he])] at hof
 injection hof with hof _
 rw[<-hof];have hb:((bw s).2 != 0)=false:=by simp[he]
 obtain⟨p0,r0,hl0,_⟩:=hl.fst;have hpos:0<l.length:=by rw[hl0]; simp
 simp only[aaB,E25,q1,hb,EW,seval];refine gA (xs:=l) (by omega) (fun i (b:Nat×Nat)=>b.1=i/\b.2<l.length) (fun post b=>yd l s post b.1 b.2) (fun b i=>[(0,bH l),(1,.str s),(8,.int .i64 b.2),(9,.int .i64 i)]) (fun _=>[]) (fun(z:Nat)=>some (ag.tuple [.int .i64 z,.int .i64 0],([]:aK))) (fun b hb=>?_) (fun pre x post b hh hx cr hw h0 hm hb hi=>?_) (0,0) ⟨rfl,hpos⟩
 ·simp only[E25,aH,bf,yd,EW,seval]
 ·obtain⟨i,b⟩:=b;obtain⟨hb1,hb2⟩:=hb;simp only at hb1 hb2;subst hb1;have q2:=k68 x.aR s (hl.On x hm) hs;have hy:=qR hb2;have hlt':pre.length<l.length:=by have:=congrArg List.length hh; simp at this; omega
  rw[yd];have hab:UL x.aR s=jJ x.aR s:=K9 _ _;rw[hab];have g0:((b:Int)<0)=False:=by simp
  cases hc:jJ x.aR s<;>rw[hc] at q2
  ·have i1:=hi (pre.length+1,b) ⟨rfl,hb2⟩;simp only[cd,af,aw];simp only[E25,aH,cr,hx,hw,h0,q2,dQ,gr,cL,EW,seval];exact i1
  ·cases hd:decide (((mD l b).aR.length:Int)<=x.aR.length)
   ·have i1:=hi (pre.length+1,b) ⟨rfl,hb2⟩;simp only[bP,af,aw];simp only[E25,aH,cr,hx,hw,h0,q2,hy,g0,hd,dQ,gr,cL,bg,EW,seval];exact i1
   ·have i1:=hi (pre.length+1,pre.length) ⟨rfl,hlt'⟩;simp only[bP,aE];simp only[E25,aH,cr,hx,hw,h0,q2,hy,g0,hd,dQ,gr,cL,bg,EW,seval];exact i1
def ag4{l:List Piece}(hl:jS l)(s:Bytes)(hs:s.length<=100000):∃r:List Int,r.length=kB l s/\∀M,aL (aq cY) 208 [bH l,.str s] M=some (lM r,M):=by
 have q1:=NQ s hs;have hm:=hl.many
 by_cases he:(bw s).2=0
 ·refine⟨lB (fun p=>jJ s p.aR) l 0,zH _ _ _,fun M=>cO (aI ?_) M⟩
  simp only[LC,Jg,q1,he,zn,Ay,EW,seval];refine gA (xs:=l) (by omega) (fun i (b:Int×List Int)=>b.1=(i:Int)/\b.2.length<=i) (fun post b=>b.2++lB (fun p=>jJ s p.aR) post b.1) (fun b i=>[(0,bH l),(1,.str s),(5,.slice (.own 0) (b.2.map mj)),(7,.int .i64 0),(8,.int .i64 i)]) (fun b=>[.tick 1 b.2.length]) (fun r=>some (lM r,[])) (fun b hb=>?_) (fun pre x post b hh hx cr hw h0 hm hb hi=>?_) (0,[]) ⟨rfl,ar _⟩
  ·simp only[Jg,aH,bf,lB,bV,EW,seval]
  ·obtain⟨i,out⟩:=b;obtain⟨hb1,hb2⟩:=hb;simp only at hb1 hb2;subst hb1;have hlt':pre.length<l.length:=by have:=congrArg List.length hh; simp at this; omega
   have q2:=k68 s x.aR hs (hl.On x hm);have r1:dL (out.length+1) 8=True:=xN;rw[lB];cases hc:jJ s x.aR<;>rw[hc] at q2
   ·have i1:=hi ((pre.length:Int)+1,out) ⟨by simp,by simp only; omega⟩
    simp only[af,aw];simp only[Jg,aH,cr,hx,hw,h0,q2,dQ,gr,cL,BEq.rfl,EW,seval];exact i1
   ·have i1:=hi ((pre.length:Int)+1,out++[(pre.length:Int)]) ⟨by simp,by simp; omega⟩
    simp only[bB,aV,bo,aJ,av,aG,aP,cZ,aW,aX] at i1;simp only[aE];simp only[Jg,aH,cr,hx,hw,h0,q2,r1,zA,dQ,gr,cL,BEq.rfl,EW,seval];exact i1
 ·have hb:((bw s).2==0)=false:=by simpa using he
  refine⟨[],(List.countP_eq_zero.2 fun p _ ha=>he (mY.1 ha).1).symm,fun M=>cO (aI ?_) M⟩
  simp only[LC,Jg,q1,zn,Ay,EW,seval];rw[bX]
  by_cases hp:(0:Int)<l.length
  ·simp only[Jg,aH,hp,hb,EW,seval];rfl
  ·simp only[Jg,aH,hp,hb,EW,seval];rfl
end
end Go.Proofs.YtcbopkblmebjiaaGreatDoor
