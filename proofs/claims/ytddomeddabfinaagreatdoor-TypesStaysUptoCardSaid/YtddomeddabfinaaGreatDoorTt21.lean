/- Parts of the proof. -/
import Derived.Test.YtddomeddabfinaaGreatDoorTt00
import Derived.Test.YtddomeddabfinaaGreatDoorTt16
set_option maxRecDepth 100000
set_option maxHeartbeats 8000000
set_option linter.unusedVariables false
set_option linter.unusedSimpArgs false
set_option linter.unusedSectionVars false
namespace Go.Proofs.YtddomeddabfinaaGreatDoor
open Go.Proofs.Tryz
section
def Eh (vs:List Vr) (s:List UInt8):Option Vr:=vs.find? (λv=>decide (s=v.nm))
def Bk (fs:List Fc) (s:List UInt8):Option Fc:=fs.find? (λf=>decide (s=f.nm))
def Ed (g:Gl) (l:List (List UInt8)):Prop:= ∀s,g.known gc s=(l.contains s||Ce s)
theorem Fj:Ed ob []:=λs=>by simp[Gl.known,ob,gc]
theorem AZ {g:Gl} {l:List (List UInt8)} (a:Ed g l) (v:Vr):Ed (g.addV v) (l++[v.nm]):=λs=>by
 have:=a s;rw[List.contains_append,kH (l.contains s),mJ,<-this];unfold Gl.addV;split
 ·by_cases e:s=v.nm
  ·subst e;simp[Gl.known]
  ·simp[Gl.known,e]
 ·by_cases e:s=v.nm
  ·subst e;simp[Gl.known]
  ·simp only[Gl.known];rw[show(s==v.nm)=false from by simp[e],j9,show[v.nm].contains s=false from by simp[e],j9]
theorem A7 {g:Gl} {l:List (List UInt8)} (a:Ed g l) (f:Fc):Ed (g.addF f) (l++[f.nm]):=λs=>by
 have:=a s;rw[List.contains_append,kH (l.contains s),mJ,<-this];unfold Gl.addF;by_cases e:s=f.nm
 ·subst e;simp[Gl.known]
 ·simp[Gl.known,e]
def lx:List (List UInt8)->List (List UInt8)->Except Er Unit
 | _,[]=> .ok ()
 |l,n::r=>if(Ce n||l.contains n)=true then .error (n,9)else lx (l++[n]) r
theorem s8: ∀(a l b:List (List UInt8)),lx l (a++b)=CR.then (lx l a) λ_=>lx (l++a) b
 | [],l,b=>by simp[lx,CR.then]
 |n::a,l,b=>by
  rw[aH,lx,lx];split
  ·rfl
  ·rw[s8 a (l++[n]) b];simp
theorem wC: ∀(vs:List Vr) (g:Gl) (l:List (List UInt8)),Ed g l->(match kP g vs with| .error e=>lx l (vs.map (·.nm))=.error e| .ok g'=>lx l (vs.map (·.nm))=.ok ()/\Ed g' (l++vs.map (·.nm)))
 | [],g,l,h=>by simp[kP,lx,h]
 |v::r,g,l,h=>by
  have a:=h v.nm;rw[kP,bF,lx,a,kH]
  cases hc:(Ce v.nm||l.contains v.nm)with
  |true=>simp only[if_true]
  |false=>
   have:=wC r _ _ (AZ h v);rw[aq]at this;simpa only[aT,if_false,aH,aP]using this
theorem wE: ∀(a:List Fc) (g:Gl) (l:List (List UInt8)),Ed g l->(match jq g a with| .error e=>lx l (a.map (·.nm))=.error e| .ok g'=>lx l (a.map (·.nm))=.ok ()/\Ed g' (l++a.map (·.nm)))
 | [],g,l,h=>by simp[jq,lx,h]
 |f::r,g,l,h=>by
  have j:=h f.nm;rw[jq,bF,lx,j,kH]
  cases hc:(Ce f.nm||l.contains f.nm)with
  |true=>simp only[if_true]
  |false=>
   have:=wE r _ _ (A7 h f);rw[aq]at this;simpa only[aT,if_false,aH,aP]using this
def vJ (p:Pg):CR:=CR.then (lx [] (p.vs.map (·.nm)++p.fs.map (·.nm))) λ_=>match Bk p.fs bW with
 |none=> .error (bW,8)
 |some f=>if 0<f.ps.length then .error (bW,16)else .ok ()
theorem uF (p:Pg):vJ p=CR.then (ng p) λ_=> .ok ():=by
 unfold vJ ng;rw[s8];have a:=wC p.vs ob [] Fj
 cases hv:kP ob p.vs with
 |error e=>rw[hv]at a;simp only at a;rw[a];rfl
 |ok g=>
  rw[hv]at a;simp only at a;rw[a.1];simp only[CR.then];have h:=wE p.fs g _ a.2
  cases hf:jq g p.fs with
  |error e=>rw[hf]at h;simp only at h;rw[h]
  |ok g2=>
   rw[hf]at h;simp only at h;rw[h.1];simp only;have e:g2.fn bW=(Bk p.fs bW).map (·.ps.length):=by
    rw[rY _ _ _ hf bW,rX _ _ _ hv];unfold Bk
    cases p.fs.find? _<;>rfl
   rw[e]
   cases Bk p.fs bW with
   |none=>rfl
   |some f=>
    simp only[gL];split<;>rfl
theorem wD: ∀(w l:List (List UInt8)),lx l w=.ok ()->(∀n∈w,Ce n=false/\n∉l)/\w.Pairwise (· ≠ ·)
 | [],l,h=>by simp
 |n::r,l,h=>by
  rw[lx]at h;split at h
  ·cases h
  ·rename_i j;obtain⟨o,A⟩:=wD r _ h;simp only[bJ,not_or,Bool.not_eq_true]at j;refine⟨λm a=> ?_,List.pairwise_cons.2 ⟨λm a e=> ?_,A⟩⟩
   ·rcases List.mem_cons.1 a with rfl|a
    ·exact⟨j.1,by simpa using j.2⟩
    ·exact⟨(o m a).1,λz=>(o m a).2 (by simp[z])⟩
   ·subst e;exact(o n a).2 Qd
structure GL (p:Pg) (g:Gl):Prop where
 arr: ∀s,g.arr s=(Eh p.vs s).bind λv=>if 0<v.sz then some v.sz else none
 int: ∀s,g.int s=(Eh p.vs s).any λv=> !decide (0<v.sz)
 fn: ∀s,g.fn s=(Bk p.fs s).map (·.ps.length)
 nb: ∀n∈p.vs.map (·.nm)++p.fs.map (·.nm),Ce n=false
 nd:(p.vs.map (·.nm)++p.fs.map (·.nm)).Pairwise (· ≠ ·)
theorem Fy: ∀x∈rC,∀c∈x.2.2,c=105\/c=115\/c=97\/c=98:=Qc
theorem up {s:List UInt8} {c:Int} {ls:List UInt8} (a:fp s=some (c,ls)): ∀x∈ls,x=105\/x=115\/x=97\/x=98:=by
 unfold fp at a;rw[fN]at a;obtain⟨x,h,a⟩:=a;have:=Fy x (cr h);rw[a]at this;exact this
theorem FA: ∀x∈rC,(x.2.2.filter (· ==105)).length<=2/\(x.2.1=9\/x.2.1=10->(x.2.2.filter (· ==105)).length=2):=Qc
theorem BR {s:List UInt8} {c:Int} {ls:List UInt8} (a:fp s=some (c,ls)):(ls.filter (· ==105)).length<=2/\(c=9\/c=10->(ls.filter (· ==105)).length=2):=by
 unfold fp at a;rw[fN]at a;obtain⟨x,h,a⟩:=a;have:=FA x (cr h);rw[a]at this;exact this
end
end Go.Proofs.YtddomeddabfinaaGreatDoor
