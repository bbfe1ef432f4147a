/-
  Parts of the proof: TyT TyU.
-/
import Derived.Test.YtddomeddabfinaaGreatDoorTl24
set_option maxRecDepth 100000
set_option maxHeartbeats 8000000
set_option linter.unusedVariables false
set_option linter.unusedSimpArgs false
set_option linter.unusedSectionVars false
namespace Go.Proofs.YtddomeddabfinaaGreatDoor
open Go.Proofs.Tryz
def varOf (vs:List Vr) (s:List UInt8):Option Vr:=vs.find? (fun v=>decide (s=v.nm))
def fnOf (fs:List Fc) (s:List UInt8):Option Fc:=fs.find? (fun f=>decide (s=f.nm))
def Knw (g:Gl) (l:List (List UInt8)):Prop:= ∀s,g.known noLs s=(l.contains s||isB s)
theorem knw_no:Knw noGl []:=fun s=>by simp[Gl.known,noGl,noLs]
theorem knw_addV {g:Gl} {l:List (List UInt8)} (h:Knw g l) (v:Vr):Knw (g.addV v) (l++[v.nm]):=fun s=>by
 have:=h s;rw[List.contains_append,Bool.or_comm (l.contains s),Bool.or_assoc,<-this];unfold Gl.addV;split
 ·by_cases e:s=v.nm
  ·subst e;simp[Gl.known]
  ·simp[Gl.known,e]
 ·by_cases e:s=v.nm
  ·subst e;simp[Gl.known]
  ·simp only[Gl.known];rw[show(s==v.nm)=false from by simp[e],Bool.false_or,show[v.nm].contains s=false from by simp[e],Bool.false_or]
theorem knw_addF {g:Gl} {l:List (List UInt8)} (h:Knw g l) (f:Fc):Knw (g.addF f) (l++[f.nm]):=fun s=>by
 have:=h s;rw[List.contains_append,Bool.or_comm (l.contains s),Bool.or_assoc,<-this];unfold Gl.addF;by_cases e:s=f.nm
 ·subst e;simp[Gl.known]
 ·simp[Gl.known,e]
def topN:List (List UInt8)->List (List UInt8)->Except Er Unit
 | _,[]=> .ok ()
 |l,n::r=>if(isB n||l.contains n)=true then .error (n,9)else topN (l++[n]) r
theorem topN_app: ∀(a l b:List (List UInt8)),topN l (a++b)=CR.then (topN l a) fun _=>topN (l++a) b
 | [],l,b=>by simp[topN,CR.then]
 |n::a,l,b=>by
  rw[List.cons_append,topN,topN];split
  ·rfl
  ·rw[topN_app a (l++[n]) b];simp
theorem topV_nm: ∀(vs:List Vr) (g:Gl) (l:List (List UInt8)),Knw g l->(match topV g vs with| .error e=>topN l (vs.map (·.nm))= .error e| .ok g'=>topN l (vs.map (·.nm))= .ok ()/\Knw g' (l++vs.map (·.nm)))
 | [],g,l,h=>by simp[topV,topN,h]
 |v::r,g,l,h=>by
  have hk:=h v.nm;rw[topV,List.map_cons,topN,hk,Bool.or_comm]
  cases hc:(isB v.nm||l.contains v.nm)with
  |true=>simp only[if_true]
  |false=>
   have:=topV_nm r _ _ (knw_addV h v);rw[List.append_assoc]at this;simpa only[Bool.false_eq_true,if_false,List.cons_append,List.nil_append]using this
theorem topF_nm: ∀(fs:List Fc) (g:Gl) (l:List (List UInt8)),Knw g l->(match topF g fs with| .error e=>topN l (fs.map (·.nm))= .error e| .ok g'=>topN l (fs.map (·.nm))= .ok ()/\Knw g' (l++fs.map (·.nm)))
 | [],g,l,h=>by simp[topF,topN,h]
 |f::r,g,l,h=>by
  have hk:=h f.nm;rw[topF,List.map_cons,topN,hk,Bool.or_comm]
  cases hc:(isB f.nm||l.contains f.nm)with
  |true=>simp only[if_true]
  |false=>
   have:=topF_nm r _ _ (knw_addF h f);rw[List.append_assoc]at this;simpa only[Bool.false_eq_true,if_false,List.cons_append,List.nil_append]using this
def namesL (p:Pg):CR:=CR.then (topN [] (p.vs.map (·.nm)++p.fs.map (·.nm))) fun _=>match fnOf p.fs tyMain with
 |none=> .error (tyMain,8)
 |some f=>if 0<f.ps.length then .error (tyMain,16)else .ok ()
theorem tops_names (p:Pg):namesL p=CR.then (tops p) fun _=> .ok ():=by
 unfold namesL tops;rw[topN_app];have h1:=topV_nm p.vs noGl [] knw_no
 cases hv:topV noGl p.vs with
 |error e=>rw[hv]at h1;simp only at h1;rw[h1];rfl
 |ok g=>
  rw[hv]at h1;simp only at h1;rw[h1.1];simp only[CR.then];have h2:=topF_nm p.fs g _ h1.2
  cases hf:topF g p.fs with
  |error e=>rw[hf]at h2;simp only at h2;rw[h2]
  |ok g2=>
   rw[hf]at h2;simp only at h2;rw[h2.1];simp only;have e:g2.fn tyMain=(fnOf p.fs tyMain).map (·.ps.length):=by
    rw[topF_fn _ _ _ hf tyMain,topV_fn _ _ _ hv];unfold fnOf
    cases p.fs.find? _<;>rfl
   rw[e]
   cases fnOf p.fs tyMain with
   |none=>rfl
   |some f=>
    simp only[Option.map_some];split<;>rfl
theorem topN_ok: ∀(a l:List (List UInt8)),topN l a= .ok ()->(∀n∈a,isB n=false/\n∉l)/\a.Pairwise (· ≠ ·)
 | [],l,h=>by simp
 |n::r,l,h=>by
  rw[topN]at h;split at h
  ·cases h
  ·rename_i hn;obtain⟨h1,h2⟩:=topN_ok r _ h;simp only[Bool.or_eq_true,not_or,Bool.not_eq_true]at hn;refine⟨fun m hm=> ?_,List.pairwise_cons.2 ⟨fun m hm e=> ?_,h2⟩⟩
   ·rcases List.mem_cons.1 hm with rfl|hm
    ·exact⟨hn.1,by simpa using hn.2⟩
    ·exact⟨(h1 m hm).1,fun hl=>(h1 m hm).2 (by simp[hl])⟩
   ·subst e;exact(h1 n hm).2 (by simp)
structure GL (p:Pg) (g:Gl):Prop where
 arr: ∀s,g.arr s=(varOf p.vs s).bind fun v=>if 0<v.sz then some v.sz else none
 int: ∀s,g.int s=(varOf p.vs s).any fun v=> !decide (0<v.sz)
 fn: ∀s,g.fn s=(fnOf p.fs s).map (·.ps.length)
 nb: ∀n∈p.vs.map (·.nm)++p.fs.map (·.nm),isB n=false
 nd:(p.vs.map (·.nm)++p.fs.map (·.nm)).Pairwise (· ≠ ·)
section
variable {p:Pg} {g:Gl} {lo:Ls} (hG:GL p g)
include hG
end
end Go.Proofs.YtddomeddabfinaaGreatDoor
namespace Go.Proofs.YtddomeddabfinaaGreatDoor
open Go.Proofs.Tryz
theorem bi_let: ∀x∈biT,∀c∈x.2.2,c=105\/c=115\/c=97\/c=98:=by decide
theorem bltn_let {s:List UInt8} {c:Int} {ls:List UInt8} (h:bltn s=some (c,ls)): ∀x∈ls,x=105\/x=115\/x=97\/x=98:=by
 unfold bltn at h;rw[Option.map_eq_some_iff]at h;obtain⟨x,hx,h⟩:=h;have:=bi_let x (List.mem_of_find?_eq_some hx);rw[h]at this;exact this
theorem bi_cnt: ∀x∈biT,(x.2.2.filter (· ==105)).length<=2/\(x.2.1=9\/x.2.1=10->(x.2.2.filter (· ==105)).length=2):=by decide
theorem bltn_cnt {s:List UInt8} {c:Int} {ls:List UInt8} (h:bltn s=some (c,ls)):(ls.filter (· ==105)).length<=2/\(c=9\/c=10->(ls.filter (· ==105)).length=2):=by
 unfold bltn at h;rw[Option.map_eq_some_iff]at h;obtain⟨x,hx,h⟩:=h;have:=bi_cnt x (List.mem_of_find?_eq_some hx);rw[h]at this;exact this
section
variable (vs:List Vr) (dm:Ls)
end
section
variable {p:Pg} {g:Gl} {dm:Ls} (hG:GL p g)
include hG
section
variable {lo:Ls} (hd: ∀s,lo s=true->dm s=true)
include hd
end
end
end Go.Proofs.YtddomeddabfinaaGreatDoor
