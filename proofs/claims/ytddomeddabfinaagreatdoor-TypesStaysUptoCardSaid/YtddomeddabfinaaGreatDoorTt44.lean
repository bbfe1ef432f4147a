/- Parts of the proof. -/
import Derived.Deep.Upon
import Derived.Test.YtddomeddabfinaaGreatDoorTt43
import Derived.Test.YtddomeddabfinaaGreatDoorTt22
import Derived.Test.YtddomeddabfinaaGreatDoorTt00
set_option maxRecDepth 100000
set_option maxHeartbeats 8000000
set_option linter.unusedVariables false
set_option linter.unusedSimpArgs false
set_option linter.defProp false
set_option linter.unusedSectionVars false
namespace Go.Proofs.YtddomeddabfinaaGreatDoor
open Go.Proofs.Tryz
section
open Go.RowKit
def UV (q n:Nat) (a b:World):Prop:=(b.os=a.os/\b.tape=a.tape/\b.output=a.output/\a.heap.size<=b.heap.size)/\ ∀k,k<a.heap.size->b.heap[k]? =a.heap[k]? \/q<=k/\ ∃c c':Array Value,aU a k 85 c/\aU b k 85 c'/\2<c.size/\c'.size=c.size/\c'.toList.take (n*2)=c.toList.take (n*2)
theorem UV.of_ext {q n:Nat} {h b:World} (a:az h b):UV q n h b:=⟨⟨a.os,a.tape,a.output,a.size⟩,λk j=> .inl (a.obj j)⟩
theorem sK {a:World} {g:Nat} {t h:TypeId} {c d:Array Value} (w:aU a g t c) (k:aU a g h d):c=d/\t=h:=by
 have:=kf (Eq.symm w) k;injection this with this;injection this with o j;exact⟨o,j⟩
theorem UV.trans {q n:Nat} {h b c:World} (a:UV q n h b) (k:UV q n b c):UV q n h c:=by
 obtain⟨⟨O,M,K,G⟩,a⟩:=a;obtain⟨⟨z,w,o,j⟩,k⟩:=k;refine⟨⟨z.trans O,w.trans M,o.trans K,aR G j⟩,λi A=> ?_⟩;rcases a i A with e|⟨hq,x,x',e1,e2,s1,s2,s3⟩<;>rcases k i Qa with f|⟨hq',y,y',f1,f2,t1,t2,t3⟩
 ·exact .inl (f.trans e)
 ·exact .inr ⟨hq',y,y',kf (Eq.symm e) f1,f2,t1,t2,t3⟩
 ·exact .inr ⟨hq,x,x',e1,kf f e2,s1,s2,s3⟩
 ·obtain⟨rfl,_⟩:=sK e2 f1;exact .inr ⟨hq,x,y',e1,f2,s1,t2.trans s2,t3.trans s3⟩
theorem UV.un {W b:World} {n:Nat} (a:UV W.heap.size n W.drew b):az W b:=
 ⟨a.1.1,a.1.2.1,a.1.2.2.1,a.1.2.2.2,λk h=>(a.2 k h).elim id λe=>absurd e.1 Qa⟩
theorem UV.blk {q n:Nat} {o b:World} (w:UV q n o b) {g:Nat} {t:TypeId} {j:Array Value} (h:aU o g t j) (a:t≠85\/j.size<=2):aU b g t j:=by
 rcases w.2 g h.lt with e|⟨_,c,c',e1,_,s,_⟩
 ·exact kf e h
 ·obtain⟨rfl,rfl⟩:=sK h e1;rcases a with a|a
  ·exact absurd rfl a
  ·omega
def mh (q n:Nat) (l:List Value) (v:Value) (w:World):Prop:= ∃g cp c,v=.slice (some ⟨g,0,none⟩) n cp/\q<=g/\aU w g 85 c/\n<=cp/\cp<=maxLen/\c.size=cp*2/\c.toList.take (n*2)=l/\(n=0->cp=0)
theorem mh.keep {q n k:Nat} {O b:World} {l:List Value} {v:Value} (V:mh q k l v O) (R:UV q n O b) (X:k<=n):mh q k l v b:=by
 obtain⟨g,M,c,K,G,a,A,z,o,j,h⟩:=V;rcases R.2 g a.lt with e|⟨_,d,d',e1,e2,s1,s2,s3⟩
 ·exact⟨g,M,c,K,G,kf e a,A,z,o,j,h⟩
 ·obtain⟨rfl,_⟩:=sK a e1;have:=congrArg (List.take (k*2)) s3;rw[List.take_take,List.take_take,Nat.min_eq_left Qa]at this;exact⟨g,M,d',K,G,e2,A,z,s2.trans o,this.trans j,h⟩
theorem mh.own {q n:Nat} {a:World} {l:List Value} {v:Value} (M:mh q n l v a) (h:l.length=n*2):a.ownsRow q 85 2 v n l:=by
 obtain⟨g,O,c,K,G,A,z,w,o,j,R⟩:=M;exact⟨h,.inr ⟨g,O,c,K,G,A,z,w,o,j⟩⟩
theorem t_ {h w':World} (a:h.grownBy w' none):az h w':=⟨a.os,a.tape,a.output,a.size,λk j=>a.block k j Qd⟩
theorem Ck {h:World} {q n:Nat} {vs:List Vr} (ap:n<=1073741823) {v:Value} (ac:mh q 0 [] v h) (ao:q<=h.heap.size) {w:Option Addr} {d:Nat} {P:Nat->Prop} (al:ik h P (.slice w n d) vs) (A:TypeId):
  ∃z w',(Builtin.append_ #[31,31] A #[v,.slice w n d]).run prog h=.ok z w'/\mh q n (eB vs) z w'/\az h w':=by
 obtain⟨g,J,c,rfl,ai,aj,_,af,ad,an,O⟩:=ac;obtain rfl:J=0:=O rfl;obtain⟨i,M,ab,I,X⟩:=info_parts uD.info;obtain⟨K,j⟩:=al.cells;rcases Nat.eq_zero_or_pos n with R|R
 ·subst R;obtain rfl:vs=[]:=ax K;refine⟨_,_,run_append_nothing h _ _ A _ i uD.under M _ 0 0 (ak _) (.slice w 0 d) ?_,⟨g,0,c,rfl,ai,aj,ak _,af,ad,by simp[eB],λ_=>rfl⟩,.refl _⟩
  cases w with
  |none=>exact Src.ofNil h uD.under d
  |some a=>exact Src.ofSlice h uD.under a 0 d [] Qd Qd Qd
 ·rcases j with j|⟨hnd,b,o,rfl,hb',j⟩
  ·omega
  obtain⟨z,w',ae,G,ah⟩:=run_append_arg_grows (P:=prog) h 31 A 85 i _ 2 24 uD.under M ab I X uD.cells uD.pos ⟨g,0,none⟩ 0 0 [] rfl Qd ⟨b,o,none⟩ n d (eB vs) (by rw[kN,K]) (λV y ag=>by rw[Addr.add_lit];exact j V y ag) Qa Qi Qa;rw[aP,aG]at G;rcases G.2 with⟨_,O⟩|⟨g',cap,cur,rfl,h1,h2,h3,h4,h5,h6⟩
  ·omega
  ·exact⟨_,_,ae,⟨g',cap,cur,rfl,by omega,h2,h3,h4,h5,h6,by omega⟩,t_ ah⟩
theorem Cj {j:World} {q n:Nat} {l:List Value} (x:Vr) (O:l.length=n*2) (aw:n<=1073741823) {v:Value} (V:mh q n l v j) (ag:q<=j.heap.size) {g:Nat} (ab:aU j g 85 (nN x).toArray) (G:TypeId):
  ∃ac o w',(Builtin.append_ #[31,31] G #[v,.slice (some ⟨g,0,none⟩) 1 1]).run prog j=.ok (.slice (some ⟨ac,0,none⟩) (n+1) o) w'/\w'.ownsRow q 85 2 (.slice (some ⟨ac,0,none⟩) (n+1) o) (n+1) (l++nN x)/\UV q n j w':=by
 have ah:=V.own O;obtain⟨az,cap',w',M,al,A,ay⟩:=pK (P:=prog) uD G q v n l ah g (nN x) ab rfl (rU x) Qa Qc ag;refine⟨_,_,_,M,al,?_⟩;obtain⟨k,o,c,rfl,ai,z,au,ax,ar,af,an⟩:=V;obtain⟨i,I,ae,K,ad⟩:=info_parts uD.info;have X: ∀a u,(nN x)[a]? =some u->j.cell? ((⟨g,0,none⟩:Addr).add a)=some u:=λa u h=>by
  rw[Addr.add_lit,aG,ab.cell];simpa using h
 by_cases hroom:n+1<=o
 ·have av:n≠0:=λe=>by have:=an e;omega
  have ak: ∀a,a<(nN x).length->(j.cell? ⟨k,0+n*i.size+a,none⟩).isSome=true:=λa h=>by
   have h:a<2:=h;rw[K,aG,z.cell,bH Qa];rfl
  have w:=run_append_room_cells (P:=prog) j 31 G 85 i uD.under I k 0 n o ⟨g,0,none⟩ 1 1 (nN x) (by rw[K];rfl) X (rU x) hroom ak (λa _=>z.frozen _);rw[M,K,aG]at w;injection w with ao R;subst R;refine⟨⟨A.os,A.tape,A.output,A.size⟩,λa h=> ?_⟩;by_cases hjk:a=k
  ·subst hjk;refine .inr ⟨ai,c,_,z,(z.set (n*2) (.string (J x.nm))).set (n*2+1) (.int .i64 x.sz),by omega,by simp,?_⟩;apply List.ext_getElem?;intro m;simp only[bL,Array.toList_setIfInBounds,List.getElem?_set];split
   ·rw[if_neg Qa,if_neg Qa]
   ·rfl
  ·exact .inl (A.block a h (λe=>hjk (by injection e)))
 ·obtain⟨aq,ap,w,_,aj⟩:=run_append_arg_grows (P:=prog) j 31 G 85 i _ 2 24 uD.under I ae K ad uD.cells uD.pos ⟨k,0,none⟩ n o l O (λa u h=>by
   rw[Addr.add_lit,aG,z.cell];have:a<n*2:=by rw[<-O];exact(List.getElem?_eq_some_iff.1 h).1
   rw[<-af,bL,if_pos this]at h
   simpa using h) ⟨g,0,none⟩ 1 1 (nN x) rfl X Qa Qi Qa
  rw[M]at w;injection w with ao R;subst R;exact UV.of_ext (t_ aj)
theorem wu {P:Program} {j w':World} {a:Oper} {h:Act} {w:Act->World->Prop} {Q:Exit->Act->World->Prop} (t:TypeId) (s x:Operand) (K:a.op=.call {callee:=.builtin .append,args:= #[s,x],argTypes:= #[t,t]})
  {v y o:Value} (A:h.eval s=v) (z:h.eval x=y) (G:(Builtin.append_ #[t,t] a.type #[v,y]).run P j=.ok o w') (M:w (h.put a.dst o) w'):a.wp P h j w Q:=by
 unfold Oper.wp execOp;simp only[K,resolve,invoke,builtin,Sem.run_bind,Sem.run_pure,Result.andThen_ok,dQ,bF,cY,A,z,G];exact M
theorem mh.lit (w:World) (q:Nat) (a:q<=w.heap.size):mh q 0 [] (.slice (some ⟨w.heap.size,0,none⟩) 0 0) (w.alloc (.cells #[] 85)):=⟨_,0,#[],rfl,a,aw w _ _,ak _,by decide,rfl,rfl,λ_=>rfl⟩
end
section
theorem rF (nm:List UInt8): ∀(vs:List Vr) (s:List UInt8),f8 (vs++[⟨nm,0⟩]) s=f8 vs s
 | [],s=>by
  show f8 [⟨nm,0⟩] s=[];rw[f8,if_neg (by rintro⟨_,a⟩;exact absurd a (Int.lt_irrefl 0))];rfl
 |v::r,s=>by
  show f8 (v::(r++[⟨nm,0⟩])) s=_;rw[f8,f8,rF nm r s]
theorem Aa (p:Pg) (nm:List UInt8) (a:Rs) (n:Nat):kn ⟨p.vs++[⟨nm,0⟩],p.fs⟩ a n=kn p a n:=by
 have h:Dp ⟨p.vs++[⟨nm,0⟩],p.fs⟩ n=Dp p n:=by
  unfold Dp;have:f8 (p.vs++[⟨nm,0⟩])=f8 p.vs:=funext (rF nm p.vs);simp only[this]
 unfold kn Ad;rw[h];rfl
def oz:=@mh.keep
def rM:=@UV.of_ext
end
end Go.Proofs.YtddomeddabfinaaGreatDoor
