/-
  Parts of the proof: TyT TyU.
-/
import Derived.Test.YtddomeddabfinaaGreatDoorTz00
import Derived.Test.YtddomeddabfinaaGreatDoorTz16
set_option maxRecDepth 100000
set_option maxHeartbeats 8000000
set_option linter.unusedVariables false
set_option linter.unusedSimpArgs false
set_option linter.unusedSectionVars false
namespace Go.Proofs.YtddomeddabfinaaGreatDoor
open Go.Proofs.Tryz
section
def A_ (vs:List Vr) (s:List UInt8):Option Vr:=vs.find? (fun v=>decide (s=v.nm))
def ya (fs:List Fc) (s:List UInt8):Option Fc:=fs.find? (fun f=>decide (s=f.nm))
def AW (g:Gl) (l:List (List UInt8)):Prop:= ∀s,g.known eY s=(l.contains s||yZ s)
theorem B8:AW mx []:=fun s=>by simp[Gl.known,mx,eY]
theorem xQ {g:Gl} {l:List (List UInt8)} (h:AW g l) (v:Vr):AW (g.addV v) (l++[v.nm]):=fun s=>by
 have:=h s;rw[List.contains_append,jk (l.contains s),kV,<-this];unfold Gl.addV;split
 ·by_cases e:s=v.nm
  ·subst e;simp[Gl.known]
  ·simp[Gl.known,e]
 ·by_cases e:s=v.nm
  ·subst e;simp[Gl.known]
  ·simp only[Gl.known];rw[show(s==v.nm)=false from by simp[e],iO,show[v.nm].contains s=false from by simp[e],iO]
theorem xR {g:Gl} {l:List (List UInt8)} (h:AW g l) (f:Fc):AW (g.addF f) (l++[f.nm]):=fun s=>by
 have:=h s;rw[List.contains_append,jk (l.contains s),kV,<-this];unfold Gl.addF;by_cases e:s=f.nm
 ·subst e;simp[Gl.known]
 ·simp[Gl.known,e]
def jT:List (List UInt8)->List (List UInt8)->Except Er Unit
 | _,[]=> .ok ()
 |l,n::r=>if(yZ n||l.contains n)=true then .error (n,9)else jT (l++[n]) r
theorem qF: ∀(a l b:List (List UInt8)),jT l (a++b)=CR.then (jT l a) fun _=>jT (l++a) b
 | [],l,b=>by simp[jT,CR.then]
 |n::a,l,b=>by
  rw[iW,jT,jT];split
  ·rfl
  ·rw[qF a (l++[n]) b];simp
theorem tG: ∀(vs:List Vr) (g:Gl) (l:List (List UInt8)),AW g l->(match jp g vs with| .error e=>jT l (vs.map (·.nm))= .error e| .ok g'=>jT l (vs.map (·.nm))= .ok ()/\AW g' (l++vs.map (·.nm)))
 | [],g,l,h=>by simp[jp,jT,h]
 |v::r,g,l,h=>by
  have hk:=h v.nm;rw[jp,bY,jT,hk,jk]
  cases hc:(yZ v.nm||l.contains v.nm)with
  |true=>simp only[if_true]
  |false=>
   have:=tG r _ _ (xQ h v);rw[aP]at this;simpa only[aN,if_false,iW,jB]using this
theorem tI: ∀(fs:List Fc) (g:Gl) (l:List (List UInt8)),AW g l->(match gV g fs with| .error e=>jT l (fs.map (·.nm))= .error e| .ok g'=>jT l (fs.map (·.nm))= .ok ()/\AW g' (l++fs.map (·.nm)))
 | [],g,l,h=>by simp[gV,jT,h]
 |f::r,g,l,h=>by
  have hk:=h f.nm;rw[gV,bY,jT,hk,jk]
  cases hc:(yZ f.nm||l.contains f.nm)with
  |true=>simp only[if_true]
  |false=>
   have:=tI r _ _ (xR h f);rw[aP]at this;simpa only[aN,if_false,iW,jB]using this
def sR (p:Pg):CR:=CR.then (jT [] (p.vs.map (·.nm)++p.fs.map (·.nm))) fun _=>match ya p.fs bC with
 |none=> .error (bC,8)
 |some f=>if 0<f.ps.length then .error (bC,16)else .ok ()
theorem r_ (p:Pg):sR p=CR.then (lF p) fun _=> .ok ():=by
 unfold sR lF;rw[qF];have h1:=tG p.vs mx [] B8
 cases hv:jp mx p.vs with
 |error e=>rw[hv]at h1;simp only at h1;rw[h1];rfl
 |ok g=>
  rw[hv]at h1;simp only at h1;rw[h1.1];simp only[CR.then];have h2:=tI p.fs g _ h1.2
  cases hf:gV g p.fs with
  |error e=>rw[hf]at h2;simp only at h2;rw[h2]
  |ok g2=>
   rw[hf]at h2;simp only at h2;rw[h2.1];simp only;have e:g2.fn bC=(ya p.fs bC).map (·.ps.length):=by
    rw[pX _ _ _ hf bC,pW _ _ _ hv];unfold ya
    cases p.fs.find? _<;>rfl
   rw[e]
   cases ya p.fs bC with
   |none=>rfl
   |some f=>
    simp only[fG];split<;>rfl
theorem tH: ∀(a l:List (List UInt8)),jT l a= .ok ()->(∀n∈a,yZ n=false/\n∉l)/\a.Pairwise (· ≠ ·)
 | [],l,h=>by simp
 |n::r,l,h=>by
  rw[jT]at h;split at h
  ·cases h
  ·rename_i hn;obtain⟨h1,h2⟩:=tH r _ h;simp only[bF,not_or,Bool.not_eq_true]at hn;refine⟨fun m hm=> ?_,List.pairwise_cons.2 ⟨fun m hm e=> ?_,h2⟩⟩
   ·rcases List.mem_cons.1 hm with rfl|hm
    ·exact⟨hn.1,by simpa using hn.2⟩
    ·exact⟨(h1 m hm).1,fun hl=>(h1 m hm).2 (by simp[hl])⟩
   ·subst e;exact(h1 n hm).2 (by simp)
structure GL (p:Pg) (g:Gl):Prop where
 arr: ∀s,g.arr s=(A_ p.vs s).bind fun v=>if 0<v.sz then some v.sz else none
 int: ∀s,g.int s=(A_ p.vs s).any fun v=> !decide (0<v.sz)
 fn: ∀s,g.fn s=(ya p.fs s).map (·.ps.length)
 nb: ∀n∈p.vs.map (·.nm)++p.fs.map (·.nm),yZ n=false
 nd:(p.vs.map (·.nm)++p.fs.map (·.nm)).Pairwise (· ≠ ·)
section
variable {p:Pg} {g:Gl} {lo:Ls} (hG:GL p g)
include hG
end
end
section
theorem Cl: ∀x∈pF,∀c∈x.2.2,c=105\/c=115\/c=97\/c=98:=by decide
theorem rO {s:List UInt8} {c:Int} {ls:List UInt8} (h:ee s=some (c,ls)): ∀x∈ls,x=105\/x=115\/x=97\/x=98:=by
 unfold ee at h;rw[eG]at h;obtain⟨x,hx,h⟩:=h;have:=Cl x (bT hx);rw[h]at this;exact this
theorem Cn: ∀x∈pF,(x.2.2.filter (· ==105)).length<=2/\(x.2.1=9\/x.2.1=10->(x.2.2.filter (· ==105)).length=2):=by decide
theorem yF {s:List UInt8} {c:Int} {ls:List UInt8} (h:ee s=some (c,ls)):(ls.filter (· ==105)).length<=2/\(c=9\/c=10->(ls.filter (· ==105)).length=2):=by
 unfold ee at h;rw[eG]at h;obtain⟨x,hx,h⟩:=h;have:=Cn x (bT hx);rw[h]at this;exact this
section
variable (vs:List Vr) (dm:Ls)
end
section
variable {p:Pg} {g:Gl} {dm:Ls} (hG:GL p g)
include hG
section
variable {lo:Ls} (hd: ∀s,lo s=true->dm s=true)
include hd
end
end
end
end Go.Proofs.YtddomeddabfinaaGreatDoor
