/-
  Parts of the proof: TyT TyU.
-/
import Derived.Test.YtddomeddabfinaaGreatDoorTa00
import Derived.Test.YtddomeddabfinaaGreatDoorTa24
set_option maxRecDepth 100000
set_option maxHeartbeats 8000000
set_option linter.unusedVariables false
set_option linter.unusedSimpArgs false
set_option linter.unusedSectionVars false
namespace Go.Proofs.YtddomeddabfinaaGreatDoor
open Go.Proofs.Tryz
section
def Ao (vs:List Vr) (s:List UInt8):Option Vr:=vs.find? (fun v=>decide (s=v.nm))
def xA (fs:List Fc) (s:List UInt8):Option Fc:=fs.find? (fun f=>decide (s=f.nm))
def Ai (g:Gl) (l:List (List UInt8)):Prop:= ∀s,g.known eG s=(l.contains s||yv s)
theorem Bh:Ai i' []:=fun s=>by simp[Gl.known,i',eG]
theorem xm {g:Gl} {l:List (List UInt8)} (h:Ai g l) (v:Vr):Ai (g.addV v) (l++[v.nm]):=fun s=>by
 have:=h s;rw[List.contains_append,jj (l.contains s),kG,<-this];unfold Gl.addV;split
 ·by_cases e:s=v.nm
  ·subst e;simp[Gl.known]
  ·simp[Gl.known,e]
 ·by_cases e:s=v.nm
  ·subst e;simp[Gl.known]
  ·simp only[Gl.known];rw[show(s==v.nm)=false from by simp[e],iH,show[v.nm].contains s=false from by simp[e],iH]
theorem xn {g:Gl} {l:List (List UInt8)} (h:Ai g l) (f:Fc):Ai (g.addF f) (l++[f.nm]):=fun s=>by
 have:=h s;rw[List.contains_append,jj (l.contains s),kG,<-this];unfold Gl.addF;by_cases e:s=f.nm
 ·subst e;simp[Gl.known]
 ·simp[Gl.known,e]
def jN:List (List UInt8)->List (List UInt8)->Except Er Unit
 | _,[]=> .ok ()
 |l,n::r=>if(yv n||l.contains n)=true then .error (n,9)else jN (l++[n]) r
theorem qq: ∀(a l b:List (List UInt8)),jN l (a++b)=CR.then (jN l a) fun _=>jN (l++a) b
 | [],l,b=>by simp[jN,CR.then]
 |n::a,l,b=>by
  rw[iT,jN,jN];split
  ·rfl
  ·rw[qq a (l++[n]) b];simp
theorem sZ: ∀(vs:List Vr) (g:Gl) (l:List (List UInt8)),Ai g l->(match ic g vs with| .error e=>jN l (vs.map (·.nm))= .error e| .ok g'=>jN l (vs.map (·.nm))= .ok ()/\Ai g' (l++vs.map (·.nm)))
 | [],g,l,h=>by simp[ic,jN,h]
 |v::r,g,l,h=>by
  have hk:=h v.nm;rw[ic,bW,jN,hk,jj]
  cases hc:(yv v.nm||l.contains v.nm)with
  |true=>simp only[if_true]
  |false=>
   have:=sZ r _ _ (xm h v);rw[aN]at this;simpa only[aK,if_false,iT,jx]using this
theorem s5: ∀(fs:List Fc) (g:Gl) (l:List (List UInt8)),Ai g l->(match gB g fs with| .error e=>jN l (fs.map (·.nm))= .error e| .ok g'=>jN l (fs.map (·.nm))= .ok ()/\Ai g' (l++fs.map (·.nm)))
 | [],g,l,h=>by simp[gB,jN,h]
 |f::r,g,l,h=>by
  have hk:=h f.nm;rw[gB,bW,jN,hk,jj]
  cases hc:(yv f.nm||l.contains f.nm)with
  |true=>simp only[if_true]
  |false=>
   have:=s5 r _ _ (xn h f);rw[aN]at this;simpa only[aK,if_false,iT,jx]using this
def sr (p:Pg):CR:=CR.then (jN [] (p.vs.map (·.nm)++p.fs.map (·.nm))) fun _=>match xA p.fs bw with
 |none=> .error (bw,8)
 |some f=>if 0<f.ps.length then .error (bw,16)else .ok ()
theorem rJ (p:Pg):sr p=CR.then (kO p) fun _=> .ok ():=by
 unfold sr kO;rw[qq];have h1:=sZ p.vs i' [] Bh
 cases hv:ic i' p.vs with
 |error e=>rw[hv]at h1;simp only at h1;rw[h1];rfl
 |ok g=>
  rw[hv]at h1;simp only at h1;rw[h1.1];simp only[CR.then];have h2:=s5 p.fs g _ h1.2
  cases hf:gB g p.fs with
  |error e=>rw[hf]at h2;simp only at h2;rw[h2]
  |ok g2=>
   rw[hf]at h2;simp only at h2;rw[h2.1];simp only;have e:g2.fn bw=(xA p.fs bw).map (·.ps.length):=by
    rw[pD _ _ _ hf bw,pC _ _ _ hv];unfold xA
    cases p.fs.find? _<;>rfl
   rw[e]
   cases xA p.fs bw with
   |none=>rfl
   |some f=>
    simp only[gz];split<;>rfl
theorem s4: ∀(a l:List (List UInt8)),jN l a= .ok ()->(∀n∈a,yv n=false/\n∉l)/\a.Pairwise (· ≠ ·)
 | [],l,h=>by simp
 |n::r,l,h=>by
  rw[jN]at h;split at h
  ·cases h
  ·rename_i hn;obtain⟨h1,h2⟩:=s4 r _ h;simp only[bE,not_or,Bool.not_eq_true]at hn;refine⟨fun m hm=> ?_,List.pairwise_cons.2 ⟨fun m hm e=> ?_,h2⟩⟩
   ·rcases List.mem_cons.1 hm with rfl|hm
    ·exact⟨hn.1,by simpa using hn.2⟩
    ·exact⟨(h1 m hm).1,fun hl=>(h1 m hm).2 (by simp[hl])⟩
   ·subst e;exact(h1 n hm).2 (by simp)
structure GL (p:Pg) (g:Gl):Prop where
 arr: ∀s,g.arr s=(Ao p.vs s).bind fun v=>if 0<v.sz then some v.sz else none
 int: ∀s,g.int s=(Ao p.vs s).any fun v=> !decide (0<v.sz)
 fn: ∀s,g.fn s=(xA p.fs s).map (·.ps.length)
 nb: ∀n∈p.vs.map (·.nm)++p.fs.map (·.nm),yv n=false
 nd:(p.vs.map (·.nm)++p.fs.map (·.nm)).Pairwise (· ≠ ·)
section
variable {p:Pg} {g:Gl} {lo:Ls} (hG:GL p g)
include hG
end
end
section
theorem Bv: ∀x∈o7,∀c∈x.2.2,c=105\/c=115\/c=97\/c=98:=by decide
theorem rr {s:List UInt8} {c:Int} {ls:List UInt8} (h:dR s=some (c,ls)): ∀x∈ls,x=105\/x=115\/x=97\/x=98:=by
 unfold dR at h;rw[eB]at h;obtain⟨x,hx,h⟩:=h;have:=Bv x (bR hx);rw[h]at this;exact this
theorem Bx: ∀x∈o7,(x.2.2.filter (· ==105)).length<=2/\(x.2.1=9\/x.2.1=10->(x.2.2.filter (· ==105)).length=2):=by decide
theorem ya {s:List UInt8} {c:Int} {ls:List UInt8} (h:dR s=some (c,ls)):(ls.filter (· ==105)).length<=2/\(c=9\/c=10->(ls.filter (· ==105)).length=2):=by
 unfold dR at h;rw[eB]at h;obtain⟨x,hx,h⟩:=h;have:=Bx x (bR hx);rw[h]at this;exact this
section
variable (vs:List Vr) (dm:Ls)
end
section
variable {p:Pg} {g:Gl} {dm:Ls} (hG:GL p g)
include hG
section
variable {lo:Ls} (hd: ∀s,lo s=true->dm s=true)
include hd
end
end
end
end Go.Proofs.YtddomeddabfinaaGreatDoor
