/-
  Parts of the proof: TyT TyU.
-/
import Derived.Test.YtddomeddabfinaaGreatDoorTu00
import Derived.Test.YtddomeddabfinaaGreatDoorTu15
set_option maxRecDepth 100000
set_option maxHeartbeats 8000000
set_option linter.unusedVariables false
set_option linter.unusedSimpArgs false
set_option linter.unusedSectionVars false
namespace Go.Proofs.YtddomeddabfinaaGreatDoor
open Go.Proofs.Tryz
section
def dJ (vs:List Vr) (s:List UInt8):Option Vr:=vs.find? (fun v=>decide (s=v.nm))
def iW (fs:List Fc) (s:List UInt8):Option Fc:=fs.find? (fun f=>decide (s=f.nm))
def wB (g:Gl) (l:List (List UInt8)):Prop:= ∀s,g.known ek s=(l.contains s||o6 s)
theorem vE:wB k' []:=fun s=>by simp[Gl.known,k',ek]
theorem mH {g:Gl} {l:List (List UInt8)} (h:wB g l) (v:Vr):wB (g.addV v) (l++[v.nm]):=fun s=>by
 have:=h s;rw[List.contains_append,eI (l.contains s),jX,<-this];unfold Gl.addV;split
 ·by_cases e:s=v.nm
  ·subst e;simp[Gl.known]
  ·simp[Gl.known,e]
 ·by_cases e:s=v.nm
  ·subst e;simp[Gl.known]
  ·simp only[Gl.known];rw[show(s==v.nm)=false from by simp[e],cK,show[v.nm].contains s=false from by simp[e],cK]
theorem vF {g:Gl} {l:List (List UInt8)} (h:wB g l) (f:Fc):wB (g.addF f) (l++[f.nm]):=fun s=>by
 have:=h s;rw[List.contains_append,eI (l.contains s),jX,<-this];unfold Gl.addF;by_cases e:s=f.nm
 ·subst e;simp[Gl.known]
 ·simp[Gl.known,e]
def fB:List (List UInt8)->List (List UInt8)->Except Er Unit
 | _,[]=> .ok ()
 |l,n::r=>if(o6 n||l.contains n)=true then .error (n,9)else fB (l++[n]) r
theorem ph: ∀(a l b:List (List UInt8)),fB l (a++b)=CR.then (fB l a) fun _=>fB (l++a) b
 | [],l,b=>by simp[fB,CR.then]
 |n::a,l,b=>by
  rw[ir,fB,fB];split
  ·rfl
  ·rw[ph a (l++[n]) b];simp
theorem oa: ∀(vs:List Vr) (g:Gl) (l:List (List UInt8)),wB g l->(match ig g vs with| .error e=>fB l (vs.map (·.nm))= .error e| .ok g'=>fB l (vs.map (·.nm))= .ok ()/\wB g' (l++vs.map (·.nm)))
 | [],g,l,h=>by simp[ig,fB,h]
 |v::r,g,l,h=>by
  have hk:=h v.nm;rw[ig,bI,fB,hk,eI]
  cases hc:(o6 v.nm||l.contains v.nm)with
  |true=>simp only[if_true]
  |false=>
   have:=oa r _ _ (mH h v);rw[aA]at this;simpa only[bR,if_false,ir,fX]using this
theorem rF: ∀(fs:List Fc) (g:Gl) (l:List (List UInt8)),wB g l->(match f8 g fs with| .error e=>fB l (fs.map (·.nm))= .error e| .ok g'=>fB l (fs.map (·.nm))= .ok ()/\wB g' (l++fs.map (·.nm)))
 | [],g,l,h=>by simp[f8,fB,h]
 |f::r,g,l,h=>by
  have hk:=h f.nm;rw[f8,bI,fB,hk,eI]
  cases hc:(o6 f.nm||l.contains f.nm)with
  |true=>simp only[if_true]
  |false=>
   have:=rF r _ _ (vF h f);rw[aA]at this;simpa only[bR,if_false,ir,fX]using this
def iU (p:Pg):CR:=CR.then (fB [] (p.vs.map (·.nm)++p.fs.map (·.nm))) fun _=>match iW p.fs bL with
 |none=> .error (bL,8)
 |some f=>if 0<f.ps.length then .error (bL,16)else .ok ()
theorem iR (p:Pg):iU p=CR.then (ji p) fun _=> .ok ():=by
 unfold iU ji;rw[ph];have h1:=oa p.vs k' [] vE
 cases hv:ig k' p.vs with
 |error e=>rw[hv]at h1;simp only at h1;rw[h1];rfl
 |ok g=>
  rw[hv]at h1;simp only at h1;rw[h1.1];simp only[CR.then];have h2:=rF p.fs g _ h1.2
  cases hf:f8 g p.fs with
  |error e=>rw[hf]at h2;simp only at h2;rw[h2]
  |ok g2=>
   rw[hf]at h2;simp only at h2;rw[h2.1];simp only;have e:g2.fn bL=(iW p.fs bL).map (·.ps.length):=by
    rw[od _ _ _ hf bL,ob _ _ _ hv];unfold iW
    cases p.fs.find? _<;>rfl
   rw[e]
   cases iW p.fs bL with
   |none=>rfl
   |some f=>
    simp only[fW];split<;>rfl
theorem oc: ∀(a l:List (List UInt8)),fB l a= .ok ()->(∀n∈a,o6 n=false/\n∉l)/\a.Pairwise (· ≠ ·)
 | [],l,h=>by simp
 |n::r,l,h=>by
  rw[fB]at h;split at h
  ·cases h
  ·rename_i hn;obtain⟨h1,h2⟩:=oc r _ h;simp only[bP,not_or,Bool.not_eq_true]at hn;refine⟨fun m hm=> ?_,List.pairwise_cons.2 ⟨fun m hm e=> ?_,h2⟩⟩
   ·rcases List.mem_cons.1 hm with rfl|hm
    ·exact⟨hn.1,by simpa using hn.2⟩
    ·exact⟨(h1 m hm).1,fun hl=>(h1 m hm).2 (by simp[hl])⟩
   ·subst e;exact(h1 n hm).2 (by simp)
structure GL (p:Pg) (g:Gl):Prop where
 arr: ∀s,g.arr s=(dJ p.vs s).bind fun v=>if 0<v.sz then some v.sz else none
 int: ∀s,g.int s=(dJ p.vs s).any fun v=> !decide (0<v.sz)
 fn: ∀s,g.fn s=(iW p.fs s).map (·.ps.length)
 nb: ∀n∈p.vs.map (·.nm)++p.fs.map (·.nm),o6 n=false
 nd:(p.vs.map (·.nm)++p.fs.map (·.nm)).Pairwise (· ≠ ·)
theorem rE: ∀(vs:List Vr) (g g':Gl) (l:List (List UInt8)),wB g l->ig g vs= .ok g'->
  (∀s,g'.arr s=match dJ vs s with|some v=>if 0<v.sz then some v.sz else none|none=>g.arr s)/\(∀s,g'.int s=match dJ vs s with|some v=> !decide (0<v.sz)|none=>g.int s)
 | [],g,g',l,h,he=>by cases he;exact⟨fun s=>rfl,fun s=>rfl⟩
 |v::r,g,g',l,h,he=>by
  have hk:=h v.nm;rw[ig]at he;split at he
  ·cases he
  ·rename_i hn;obtain⟨h1,h2⟩:=rE r _ g' _ (mH h v) he;have hnm:=oa r _ _ (mH h v);rw[he]at hnm;have hu:=(oc _ _ hnm.1).1;have hr:dJ r v.nm=none:=by
    unfold dJ;rw[eV];intro u hu2 e;have e:v.nm=u.nm:=by simpa using e
    exact(hu u.nm (List.mem_map.2 ⟨u,hu2,rfl⟩)).2 (by simp[e])
   have hg:g.arr v.nm=none/\g.int v.nm=false:=by
    unfold Gl.known at hn;simp only[bP,not_or,Bool.not_eq_true]at hn;refine⟨?_,hn.2.2.1⟩
    cases hx:g.arr v.nm with
    |none=>rfl
    |some _=>rw[hx]at hn;simp at hn
   refine⟨fun s=> ?_,fun s=> ?_⟩
   ·rw[h1 s];by_cases e:s=v.nm
    ·subst e;rw[hr];simp only[dJ,eh,decide_true];unfold Gl.addV;split
     ·simp
     ·exact hg.1
    ·have:dJ (v::r) s=dJ r s:=by simp[dJ,eh,e]
     rw[this]
     cases dJ r s with
     |some u=>rfl
     |none=>
      simp only;unfold Gl.addV;split
      ·simp[e]
      ·rfl
   ·rw[h2 s];by_cases e:s=v.nm
    ·subst e;rw[hr];simp only[dJ,eh,decide_true];unfold Gl.addV;split
     ·rename_i hz;simp[hz,hg.2]
     ·rename_i hz;simp[hz]
    ·have:dJ (v::r) s=dJ r s:=by simp[dJ,eh,e]
     rw[this]
     cases dJ r s with
     |some u=>rfl
     |none=>
      simp only;unfold Gl.addV;split
      ·rfl
      ·simp[e]
theorem rG: ∀(fs:List Fc) (g g':Gl),f8 g fs= .ok g'->g'.arr=g.arr/\g'.int=g.int
 | [],g,g',h=>by cases h;exact⟨rfl,rfl⟩
 |f::r,g,g',h=>by
  rw[f8]at h;split at h
  ·cases h
  ·exact rG r (g.addF f) _ h
theorem wG {p:Pg} {g:Gl} (h:ji p= .ok g):GL p g:=by
 have hf:=wH h;have hn:=iR p;rw[h]at hn;have hn1:fB [] (p.vs.map (·.nm)++p.fs.map (·.nm))= .ok ():=by
  unfold iU at hn;obtain⟨_,h1,_⟩:=fL hn;exact h1
 have hk:=oc _ _ hn1;unfold ji at h;obtain⟨g1,h1,h⟩:=fL h;obtain⟨g2,h2,h⟩:=fL h;have:g2=g:=by
  split at h
  ·cases h
  ·split at h
   ·cases h
   ·cases h;rfl
 subst this;obtain⟨q1,q2⟩:=rE _ _ _ _ vE h1;obtain⟨q3,q4⟩:=rG _ _ _ h2;refine⟨fun s=> ?_,fun s=> ?_,hf,fun n hn=>(hk.1 n hn).1,hk.2⟩
 ·rw[q3,q1 s]
  cases dJ p.vs s<;>rfl
 ·rw[q4,q2 s]
  cases dJ p.vs s<;>rfl
def Dj (p:Pg) (lo:Ls):Prop:= ∀s,lo s=true->dJ p.vs s=none/\iW p.fs s=none/\o6 s=false
theorem AJ (p:Pg):Dj p ek:=fun s h=>by cases h
def cX (p:Pg) (s:List UInt8):Bool:=o6 s||(iW p.fs s).isSome
def ko (p:Pg) (lo:Ls) (s:List UInt8) (array:Bool):CR:=
 if lo s=true then(if array=true then .error (s,16)else .ok ())
 else match dJ p.vs s with
  |none=>if cX p s=true then .error (s,16)else .error (s,15)
  |some v=>if decide (0<v.sz)≠array then .error (s,16)else .ok ()
section
variable {p:Pg} {g:Gl} {lo:Ls} (hG:GL p g)
include hG
theorem jD (s:List UInt8):g.known lo s=(cX p s||((dJ p.vs s).isSome||lo s)):=by
 unfold Gl.known cX;rw[hG.arr,hG.int,hG.fn]
 cases dJ p.vs s with
 |none=>cases iW p.fs s<;>cases o6 s<;>cases lo s<;>rfl
 |some v=>
  simp only[dY,i8,cQ];split
  ·simp
  ·rename_i h;simp[h]
theorem rj (hD:Dj p lo) {s:List UInt8} (h:g.known lo s=false):Dj p (lo.add s):=fun x hx=>by
 unfold Ls.add at hx;rw[bP]at hx;rcases hx with hx|hx
 ·obtain rfl:x=s:=by simpa using hx
  rw[jD hG]at h;unfold cX at h;simp only[Bool.or_eq_false_iff]at h;refine⟨?_,?_,h.1.1⟩
  ·cases hv:dJ p.vs x with
   |none=>rfl
   |some v=>rw[hv]at h;simp at h
  ·cases hv:iW p.fs x with
   |none=>rfl
   |some v=>rw[hv]at h;simp at h
 ·exact hD x hx
theorem nM (hD:Dj p lo) (s:List UInt8):ko p lo s false=gN g lo s:=by
 unfold ko gN;rw[jD hG,hG.int]
 cases hl:lo s with
 |true=>simp
 |false=>
  cases hv:dJ p.vs s with
  |none=>cases hc:cX p s<;>simp
  |some v=>by_cases h:0<v.sz<;>simp[h]
theorem lc (hD:Dj p lo) (s:List UInt8):ko p lo s true=d9 g lo s:=by
 unfold ko d9;rw[jD hG,hG.arr]
 cases hl:lo s with
 |true=>
  obtain⟨h1,_,_⟩:=hD s hl;rw[h1];simp
 |false=>
  cases hv:dJ p.vs s with
  |none=>cases hc:cX p s<;>simp
  |some v=>by_cases h:0<v.sz<;>simp[h]
mutual
theorem xJ: ∀(x:St) (lo lo':Ls),Dj p lo->mO g lo x= .ok lo'->Dj p lo'/\ ∀s,lo s=true->lo' s=true
 | .mk k nm ex b e,lo,lo',hD,h=>by
  rw[mO]at h;obtain⟨_,_,h⟩:=fL h;obtain⟨_,_,h⟩:=fL h;obtain⟨l1,h1,h⟩:=fL h;obtain⟨l2,h2,h⟩:=fL h;have hl1:Dj p l1/\ ∀s,lo s=true->l1 s=true:=by
   split at h1
   ·split at h1
    ·cases h1
    ·rename_i hk
     cases h1;exact⟨rj hG hD (by simpa using hk),fun s hs=>by simp[Ls.add,hs]⟩
   ·cases h1;exact⟨hD,fun _ h=>h⟩
  have hl2:=kL b _ _ hl1.1 h2;have hl3:=kL e _ _ hl2.1 h;exact⟨hl3.1,fun s hs=>hl3.2 s (hl2.2 s (hl1.2 s hs))⟩
theorem kL: ∀(l:List St) (lo lo':Ls),Dj p lo->dm g lo l= .ok lo'->Dj p lo'/\ ∀s,lo s=true->lo' s=true
 | [],lo,lo',hD,h=>by rw[dm]at h;cases h;exact⟨hD,fun _ h=>h⟩
 |x::r,lo,lo',hD,h=>by
  rw[dm]at h;obtain⟨l1,h1,h⟩:=fL h;have q1:=xJ x _ _ hD h1;have q2:=kL r _ _ q1.1 h;exact⟨q2.1,fun s hs=>q2.2 s (q1.2 s hs)⟩
end
end
end
section
theorem zC: ∀x∈lN,∀c∈x.2.2,c=105\/c=115\/c=97\/c=98:=by decide
theorem qe {s:List UInt8} {c:Int} {ls:List UInt8} (h:bD s=some (c,ls)): ∀x∈ls,x=105\/x=115\/x=97\/x=98:=by
 unfold bD at h;rw[iN]at h;obtain⟨x,hx,h⟩:=h;have:=zC x (c8 hx);rw[h]at this;exact this
end
end Go.Proofs.YtddomeddabfinaaGreatDoor
