/-
  Parts of the proof: TyT TyU.
-/
import Derived.Test.YtddomeddabfinaaGreatDoorTp00
import Derived.Test.YtddomeddabfinaaGreatDoorTp16
set_option maxRecDepth 100000
set_option maxHeartbeats 8000000
set_option linter.unusedVariables false
set_option linter.unusedSimpArgs false
set_option linter.unusedSectionVars false
namespace Go.Proofs.YtddomeddabfinaaGreatDoor
open Go.Proofs.Tryz
section
def BK (vs:List Vr) (s:List UInt8):Option Vr:=vs.find? (fun v=>decide (s=v.nm))
def yR (fs:List Fc) (s:List UInt8):Option Fc:=fs.find? (fun f=>decide (s=f.nm))
def BG (g:Gl) (l:List (List UInt8)):Prop:= ∀s,g.known ff s=(l.contains s||zJ s)
theorem CI:BG mD []:=fun s=>by simp[Gl.known,mD,ff]
theorem yF {g:Gl} {l:List (List UInt8)} (h:BG g l) (v:Vr):BG (g.addV v) (l++[v.nm]):=fun s=>by
 have:=h s;rw[List.contains_append,jF (l.contains s),lk,<-this];unfold Gl.addV;split
 ·by_cases e:s=v.nm
  ·subst e;simp[Gl.known]
  ·simp[Gl.known,e]
 ·by_cases e:s=v.nm
  ·subst e;simp[Gl.known]
  ·simp only[Gl.known];rw[show(s==v.nm)=false from by simp[e],je,show[v.nm].contains s=false from by simp[e],je]
theorem yG {g:Gl} {l:List (List UInt8)} (h:BG g l) (f:Fc):BG (g.addF f) (l++[f.nm]):=fun s=>by
 have:=h s;rw[List.contains_append,jF (l.contains s),lk,<-this];unfold Gl.addF;by_cases e:s=f.nm
 ·subst e;simp[Gl.known]
 ·simp[Gl.known,e]
def ke:List (List UInt8)->List (List UInt8)->Except Er Unit
 | _,[]=> .ok ()
 |l,n::r=>if(zJ n||l.contains n)=true then .error (n,9)else ke (l++[n]) r
theorem qY: ∀(a l b:List (List UInt8)),ke l (a++b)=CR.then (ke l a) fun _=>ke (l++a) b
 | [],l,b=>by simp[ke,CR.then]
 |n::a,l,b=>by
  rw[jm,ke,ke];split
  ·rfl
  ·rw[qY a (l++[n]) b];simp
theorem tY: ∀(vs:List Vr) (g:Gl) (l:List (List UInt8)),BG g l->(match jK g vs with| .error e=>ke l (vs.map (·.nm))= .error e| .ok g'=>ke l (vs.map (·.nm))= .ok ()/\BG g' (l++vs.map (·.nm)))
 | [],g,l,h=>by simp[jK,ke,h]
 |v::r,g,l,h=>by
  have hk:=h v.nm;rw[jK,bD,ke,hk,jF]
  cases hc:(zJ v.nm||l.contains v.nm)with
  |true=>simp only[if_true]
  |false=>
   have:=tY r _ _ (yF h v);rw[aR]at this;simpa only[aO,if_false,jm,jW]using this
theorem t8: ∀(fs:List Fc) (g:Gl) (l:List (List UInt8)),BG g l->(match il g fs with| .error e=>ke l (fs.map (·.nm))= .error e| .ok g'=>ke l (fs.map (·.nm))= .ok ()/\BG g' (l++fs.map (·.nm)))
 | [],g,l,h=>by simp[il,ke,h]
 |f::r,g,l,h=>by
  have hk:=h f.nm;rw[il,bD,ke,hk,jF]
  cases hc:(zJ f.nm||l.contains f.nm)with
  |true=>simp only[if_true]
  |false=>
   have:=t8 r _ _ (yG h f);rw[aR]at this;simpa only[aO,if_false,jm,jW]using this
def tj (p:Pg):CR:=CR.then (ke [] (p.vs.map (·.nm)++p.fs.map (·.nm))) fun _=>match yR p.fs bH with
 |none=> .error (bH,8)
 |some f=>if 0<f.ps.length then .error (bH,16)else .ok ()
theorem sC (p:Pg):tj p=CR.then (lO p) fun _=> .ok ():=by
 unfold tj lO;rw[qY];have h1:=tY p.vs mD [] CI
 cases hv:jK mD p.vs with
 |error e=>rw[hv]at h1;simp only at h1;rw[h1];rfl
 |ok g=>
  rw[hv]at h1;simp only at h1;rw[h1.1];simp only[CR.then];have h2:=t8 p.fs g _ h1.2
  cases hf:il g p.fs with
  |error e=>rw[hf]at h2;simp only at h2;rw[h2]
  |ok g2=>
   rw[hf]at h2;simp only at h2;rw[h2.1];simp only;have e:g2.fn bH=(yR p.fs bH).map (·.ps.length):=by
    rw[qd _ _ _ hf bH,qc _ _ _ hv];unfold yR
    cases p.fs.find? _<;>rfl
   rw[e]
   cases yR p.fs bH with
   |none=>rfl
   |some f=>
    simp only[gQ];split<;>rfl
theorem tZ: ∀(a l:List (List UInt8)),ke l a= .ok ()->(∀n∈a,zJ n=false/\n∉l)/\a.Pairwise (· ≠ ·)
 | [],l,h=>by simp
 |n::r,l,h=>by
  rw[ke]at h;split at h
  ·cases h
  ·rename_i hn;obtain⟨h1,h2⟩:=tZ r _ h;simp only[bN,not_or,Bool.not_eq_true]at hn;refine⟨fun m hm=> ?_,List.pairwise_cons.2 ⟨fun m hm e=> ?_,h2⟩⟩
   ·rcases List.mem_cons.1 hm with rfl|hm
    ·exact⟨hn.1,by simpa using hn.2⟩
    ·exact⟨(h1 m hm).1,fun hl=>(h1 m hm).2 (by simp[hl])⟩
   ·subst e;exact(h1 n hm).2 (by simp)
structure GL (p:Pg) (g:Gl):Prop where
 arr: ∀s,g.arr s=(BK p.vs s).bind fun v=>if 0<v.sz then some v.sz else none
 int: ∀s,g.int s=(BK p.vs s).any fun v=> !decide (0<v.sz)
 fn: ∀s,g.fn s=(yR p.fs s).map (·.ps.length)
 nb: ∀n∈p.vs.map (·.nm)++p.fs.map (·.nm),zJ n=false
 nd:(p.vs.map (·.nm)++p.fs.map (·.nm)).Pairwise (· ≠ ·)
section
variable {p:Pg} {g:Gl} {lo:Ls} (hG:GL p g)
include hG
end
end
section
theorem CY: ∀x∈pT,∀c∈x.2.2,c=105\/c=115\/c=97\/c=98:=by decide
theorem sa {s:List UInt8} {c:Int} {ls:List UInt8} (h:ew s=some (c,ls)): ∀x∈ls,x=105\/x=115\/x=97\/x=98:=by
 unfold ew at h;rw[eM]at h;obtain⟨x,hx,h⟩:=h;have:=CY x (bX hx);rw[h]at this;exact this
theorem C0: ∀x∈pT,(x.2.2.filter (· ==105)).length<=2/\(x.2.1=9\/x.2.1=10->(x.2.2.filter (· ==105)).length=2):=by decide
theorem zq {s:List UInt8} {c:Int} {ls:List UInt8} (h:ew s=some (c,ls)):(ls.filter (· ==105)).length<=2/\(c=9\/c=10->(ls.filter (· ==105)).length=2):=by
 unfold ew at h;rw[eM]at h;obtain⟨x,hx,h⟩:=h;have:=C0 x (bX hx);rw[h]at this;exact this
section
variable (vs:List Vr) (dm:Ls)
end
section
variable {p:Pg} {g:Gl} {dm:Ls} (hG:GL p g)
include hG
section
variable {lo:Ls} (hd: ∀s,lo s=true->dm s=true)
include hd
end
end
end
end Go.Proofs.YtddomeddabfinaaGreatDoor
