/- Parts of the proof. -/
import Derived.Test.YtoedmpgicdekmaaGreatDoorCo02
import Derived.Test.YtoedmpgicdekmaaGreatDoorCo03
set_option maxRecDepth 100000
set_option maxHeartbeats 8000000
set_option linter.all false
namespace Go.Proofs.YtoedmpgicdekmaaGreatDoor
open IntKind(i64)
open Go.Proofs.Tryz
section
open Go.RowKit
theorem jJ (l:List UInt8):(Z l).data.toList=l:=by simp[Z]
theorem qh (c:UInt8): ∀l:List UInt8,(Lib.indexByte l c= -1/\l.contains c=false)\/(0<=Lib.indexByte l c/\l.contains c=true)
 | []=> .inl ⟨rfl,rfl⟩
 |b::l=>by
  simp only[Lib.indexByte];by_cases h:b=c
  ·subst h;refine .inr ⟨by simp,by simp⟩
  ·have u:(b==c)=false:=Qn.2 h;have d:(c==b)=false:=Qn.2 λe=>h e.symm;rw[u];rcases qh c l with⟨o,a⟩|⟨o,a⟩
   ·refine .inl ⟨by simp[o],?_⟩;rw[ib,d,a];rfl
   ·refine .inr ⟨?_,?_⟩
    ·have:(Lib.indexByte l c== -1)=false:=by rw[Qn];omega
     simp only[aR,if_false,this];omega
    ·rw[ib,d,a];rfl
theorem vw: ∀l:List UInt8,Lib.indexByte l 10=if gz l<l.length then(gz l:Int)else-1
 | []=>rfl
 |b::l=>by
  by_cases h:b=10
  ·subst h;rfl
  ·have d:(b==10)=false:=Qn.2 h;have o:(b !=10)=true:=by simp[h]
   have a:=vw l;have e:gz (b::l)=gz l+1:=by simp[gz,cN,h]
   rw[e];simp only[Lib.indexByte];rw[d,a,if_neg Qe];by_cases hl:gz l<l.length
   ·rw[if_pos hl,if_neg Qe,if_pos (by rw[ag];omega)];rfl
   ·rw[if_neg hl,if_pos (show((-1:Int)== -1)=true from rfl),if_neg (by rw[ag];omega)]
theorem Aw (c:UInt8):Fy c=([32,9,10,13]:List UInt8).contains c:=by
 have: ∀n:Fin 256,Fy (UInt8.ofNat n.val)=([32,9,10,13]:List UInt8).contains (UInt8.ofNat n.val):=Ql
 have a:=this ⟨c.toNat,c.toNat_lt⟩;rwa [j4]at a
theorem pj (l:List UInt8) (c:UInt8) (a:World):Calls prog 149 #[.string (Z l),.int .u8 (c.toNat:Int)] a λe w'=>e=.returned (.int i64 (Lib.indexByte l c))/\a=w':=by
 refine(Tryz.strings_IndexByte (Z l) (c.toNat:Int) a).mono ?_;rintro e w' ⟨rfl,rfl⟩;rw[jJ];have:(c.toNat:Int).toNat.toUInt8=c:=by
  rw[bY];exact j4
 rw[this];exact⟨rfl,rfl⟩
theorem qE (l p:List UInt8) (a:World):Calls prog 150 #[.string (Z l),.string (Z p)] a λe w'=>e=.returned (.bool (p.isPrefixOf l))/\a=w':=by
 refine(Tryz.strings_HasPrefix (Z l) (Z p) a).mono ?_;rintro e w' ⟨rfl,rfl⟩;rw[jJ,jJ];exact⟨rfl,rfl⟩
theorem sX (l:List UInt8):(([47,47]:List UInt8).isPrefixOf l=true/\ ∃r,l=47::47::r)\/(([47,47]:List UInt8).isPrefixOf l=false/\ ∀c r,l=c::r-> ¬(c=47/\r.head? =some 47)):=by
 match l with
 | []=>exact .inr ⟨rfl,λc r a=>by cases a⟩
 | [c]=>exact .inr ⟨by simp[List.isPrefixOf],λc' r a=>by injection a with o h;subst h;simp⟩
 |c::d::r=>
  by_cases a:c=47/\d=47
  ·obtain⟨rfl,rfl⟩:=a;exact .inl ⟨by simp[List.isPrefixOf],r,rfl⟩
  ·refine .inr ⟨?_,λc' w u=>by injection u with o h;subst o h;simpa using a⟩;simp only[List.isPrefixOf,gQ];rw[Bool.and_eq_false_iff];by_cases hc:c=47
   ·right;exact Qn.2 λe=>a ⟨hc,e.symm⟩
   ·left;exact Qn.2 λe=>hc e.symm
theorem zd {l:List UInt8} {j:Nat} (d:j<l.length) (a:Fy l[j]=true):dv false (l.drop j)=dv false (l.drop (j+1))+1:=by
 rw[ap d];simp only[dv];rw[if_pos a]
theorem zc {l:List UInt8} {j:Nat} (d:j<l.length) (h:Fy l[j]=false) (a: ∀c r,l.drop j=c::r-> ¬(c=47/\r.head? =some 47)):dv false (l.drop j)=0:=by
 have a:=a l[j] (l.drop (j+1)) (ap d);rw[ap d];simp only[dv];rw[h,if_neg Qe,if_neg a]
theorem Ag (l:List UInt8) (au:l.length<=100000) (a:World):Calls prog 95 #[.string (Z l)] a λe w'=>e=.returned (.int i64 (dv false l))/\a=w':=by
 have aq:=aZ l;go_enter func95,ntmps95;go_wp2_with fail
 go_loop [3] (λaa=> ∃j:Nat,aa=.int i64 j/\j<=l.length/\Hid (dv false l=j+dv false (l.drop j))) (λaa=>l.length-(intOf aa).toNat)
 case atStart=>exact⟨0,rfl,aD _,G Qe⟩
 case round=>
  obtain⟨j,rfl,av,z⟩:=hrel;by_cases hlt:j<l.length
  ·have al:j<(Z l).size:=by rw[aZ];exact hlt
   have aw:=nV l j al;have ai:(j:Int)<l.length:=J
   have ae:=fN l j l.length;rw[b6]at ae;have ao:=G (λI=>zd (l:=l) hlt I);have ap:=G (λI ag=>zc (l:=l) hlt I ag);generalize l[j]'hlt=c at*;have V:=G (show Calls prog 149 #[.string ⟨#[32,9,10,13]⟩,.int .u8 (c.toNat:Int)] a λe w'=>e=.returned (.int i64 (Lib.indexByte [32,9,10,13] c))/\a=w' from pj [32,9,10,13] c a)
   cases hw:Fy c with
   |true=>
    have hi:0<=Lib.indexByte [32,9,10,13] c:=by
     rcases qh c [32,9,10,13]with⟨R,u⟩|⟨R,u⟩
     ·rw[<-Aw,hw]at u;cases u
     ·exact R
    have d:=G (show dv false l=((j+1:Nat))+dv false (l.drop (j+1)) by rw[z.out,ao.out hw];omega);generalize Lib.indexByte [32,9,10,13] c=af at*;clear hw ae;go_wp2_with (go_at_call 149;refine V.out.mono ?_;rintro e w' ⟨rfl,rfl⟩)
    go_round
    case rel=>exact⟨j+1,by go_num,by omega,d⟩
    case measure=>simp[intOf];omega
   |false=>
    have hi: ¬0<=Lib.indexByte [32,9,10,13] c:=by
     rcases qh c [32,9,10,13]with⟨R,u⟩|⟨R,u⟩
     ·omega
     ·rw[<-Aw,hw]at u;cases u
    generalize Lib.indexByte [32,9,10,13] c=af at*;have A:=G (show Calls prog 150 #[.string (Z (l.drop j)),.string ⟨#[47,47]⟩] a λe w'=>e=.returned (.bool (([47,47]:List UInt8).isPrefixOf (l.drop j)))/\a=w' from qE (l.drop j) [47,47] a);rcases sX (l.drop j)with⟨w,o⟩|⟨w,o⟩
    ·have F:=rH o;have y:=vw (l.drop j);have X:=G (show Calls prog 149 #[.string (Z (l.drop j)),.int .u8 10] a λe w'=>e=.returned (.int i64 (Lib.indexByte (l.drop j) 10))/\a=w' from pj (l.drop j) 10 a);rw[w]at A;have H:gz (l.drop j)<=(l.drop j).length:=jK _ _;have ad:(l.drop j).length=l.length-j:=bK;by_cases hn:gz (l.drop j)<(l.drop j).length
     ·rw[if_pos hn]at y;rw[y]at X;have d:=G (show dv false l=((j+gz (l.drop j):Nat))+dv false (l.drop (j+gz (l.drop j))) by rw[z.out,F,eh];omega);have ar:1<=gz (l.drop j):=by
       obtain⟨r,ah⟩:=o;rw[ah];simp[gz,cN]
      have aj:j+gz (l.drop j)<=l.length:=J
      generalize gz (l.drop j)=n at*;clear hw w o F y hn H ad
      go_wp2_with (first
       |(go_at_call 149;with_reducible (refine V.out.mono ?_);rintro e w' ⟨rfl,rfl⟩)
       |(go_at_call 150;refine A.out.mono ?_;rintro e w' ⟨rfl,rfl⟩)
       |(go_at_call 149;refine X.out.mono ?_;rintro e w' ⟨rfl,rfl⟩))
      go_round
      case rel=>exact⟨j+n,by go_num,aj,d⟩
      case measure=>simp[intOf];omega
     ·rw[if_neg hn]at y;rw[y]at X;have an:j+gz (l.drop j)=l.length:=J
      have d:=G (show dv false l=l.length by
       have am:l.drop (j+gz (l.drop j))=[]:=aK J;rw[z.out,F,eh,am];show j+(gz (l.drop j)+0)=l.length
       omega)
      clear an;clear hw w o F y hn H ad
      go_wp2_with (first
       |(go_at_call 149;with_reducible (refine V.out.mono ?_);rintro e w' ⟨rfl,rfl⟩)
       |(go_at_call 150;refine A.out.mono ?_;rintro e w' ⟨rfl,rfl⟩)
       |(go_at_call 149;refine X.out.mono ?_;rintro e w' ⟨rfl,rfl⟩))
      go_ret;exact⟨ob (by rw[d.out]),rfl⟩
    ·rw[w]at A;have d:=G (show dv false l=j by rw[z.out,ap.out hw o];omega);clear hw w o
     go_wp2_with (first
      |(go_at_call 149;with_reducible (refine V.out.mono ?_);rintro e w' ⟨rfl,rfl⟩)
      |(go_at_call 150;refine A.out.mono ?_;rintro e w' ⟨rfl,rfl⟩))
     go_ret;exact⟨ob (by rw[d.out]),rfl⟩
  ·have d:=G (show dv false l=j by rw[z.out,aK J];rfl);have ai: ¬(j:Int)<l.length:=J
   go_wp2_with fail;go_ret;exact⟨ob (by rw[d.out]),rfl⟩
def dg:v6->Value
 | .ok x=> .tuple #[.agg #[.int i64 x.1.1,.string (Z x.1.2.1),.int i64 x.1.2.2,.int i64 0],.int i64 (x.2:Int),.int i64 0]
 | .error e=> .tuple #[.agg #[.int i64 0,.string ⟨#[]⟩,.int i64 0,.int i64 0],.int i64 0,.int i64 e]
theorem aO.put4 {h:World} {g:Nat} {t:TypeId} {y w u o:Value} (z:aO h g t #[y,w,u,o]) (d b c a:Value):aO ((((h.setCell ⟨g,0,none⟩ d).setCell ⟨g,1,none⟩ b).setCell ⟨g,2,none⟩ c).setCell ⟨g,3,none⟩ a) g t #[d,b,c,a]:=by
 have:=(((z.set 0 d).set 1 b).set 2 c).set 3 a;simpa using this
theorem au.put4 {w0 d:World} {g:Nat} (u:au w0 d) (a:w0.heap.size<=g) (o b c h:Value):au w0 ((((d.setCell ⟨g,0,none⟩ o).setCell ⟨g,1,none⟩ b).setCell ⟨g,2,none⟩ c).setCell ⟨g,3,none⟩ h):=(((u.set a o).set a b).set a c).set a h
theorem Ay (l:List UInt8) (A:l.length<=100000) (a:World):Calls prog 151 #[.string (Z l)] a λe w'=>e=.returned (dg (lu l))/\au a w':=by
 have V:=aZ l;have X:=jK gq l;have F:=fN l 0 (cN gq l);simp only[aw]at F;have w:=G (λa=>uE gq 107 oq (.inl rfl) l A a);have d:=G (show lu l=if zC (l.take (cN gq l))then .ok ((2,l.take (cN gq l),0),cN gq l)else if 14<cN gq l then .error 6 else .ok ((1,l.take (cN gq l),0),cN gq l)from rfl);have u:=G (λa=>pO (l.take (cN gq l)) a);generalize z:cN gq l=n at*;generalize y:l.take n=x at*;clear z y
 cases hk:zC x with
 |true=>
  have o:=G (show lu l=.ok ((2,x,0),n) by rw[d.out,hk,if_pos rfl]);rw[hk]at u;clear hk d;go_enter func151,ntmps151
  go_wp2_with (first
   |(go_at_call 200;refine(w.out _).mono ?_;rintro e w' ⟨rfl,rfl⟩)
   |(go_at_call 109;refine(u.out _).mono ?_;rintro e w' ⟨rfl,rfl⟩))
  exact bodyPost_ret (v:=dg (.ok ((2,x,0),n))) (by simp[results,results151,go_sem,dg]) rfl ⟨by rw[o.out],(aa a _).alloc' _⟩
 |false=>
  rw[hk]at u;by_cases h14:14<n
  ·have o:=G (show lu l=.error 6 by rw[d.out,hk,if_neg Qe,if_pos h14]);have R:(14:Int)<n:=J
   clear hk d;go_enter func151,ntmps151
   go_wp2_with (first
    |(go_at_call 200;refine(w.out _).mono ?_;rintro e w' ⟨rfl,rfl⟩)
    |(go_at_call 109;refine(u.out _).mono ?_;rintro e w' ⟨rfl,rfl⟩))
   exact bodyPost_ret (v:=dg (.error 6)) (by simp[results,results151,go_sem,dg]) rfl ⟨by rw[o.out],(aa a _).alloc' _⟩
  ·have o:=G (show lu l=.ok ((1,x,0),n) by rw[d.out,hk,if_neg Qe,if_neg h14]);have R: ¬(14:Int)<n:=J
   clear hk d;go_enter func151,ntmps151
   go_wp2_with (first
    |(go_at_call 200;refine(w.out _).mono ?_;rintro e w' ⟨rfl,rfl⟩)
    |(go_at_call 109;refine(u.out _).mono ?_;rintro e w' ⟨rfl,rfl⟩))
   exact bodyPost_ret (v:=dg (.ok ((1,x,0),n))) (by simp[results,results151,go_sem,dg]) rfl ⟨by rw[o.out],(aa a _).alloc' _⟩
theorem pm (l:List UInt8) (j:Nat) (a:j<l.length):(l.drop j).head? =some l[j]:=by rw[lm,aH a]
theorem qS (l:List UInt8) (j:Nat) (a:l.length<=j):(l.drop j).head? =none:=by rw[lm,lE a]
theorem Ac (c:UInt8) (m:List UInt8):kg (c::m)=if(cY m).2=0\/m.head? =some 39\/(m.drop (cY m).2).head? ≠some 39 then .error 3 else .ok ((3,[],((cY m).1.toNat:Int)),(cY m).2+2):=rfl
theorem Dh (c:UInt8) (m:List UInt8) (aj:m.length<=100000) (o:World):Calls prog 154 #[.string (Z (c::m))] o λe w'=>e=.returned (dg (kg (c::m)))/\au o w':=by
 have H:(Z (c::m)).size=m.length+1:=by rw[aZ];rfl
 have aC:(Z (c::m)).extract 1 (m.length+1)=Z m:=by
  have:=fN (c::m) 1 (m.length+1);rw[bQ Qe]at this;exact this
 have A:=G (λo=>vD m o aj);obtain⟨aA,az⟩:=md m;have u:=G (Ac c m);generalize ag:(cY m).1=v at*;generalize ae:(cY m).2=n at*;have aE:=G ae;have ar:=v.toNat_lt;have ap:(v.toNat:Int)<256:=J
 clear ag ae;by_cases hn0:n=0
 ·have y:=G (show kg (c::m)=.error 3 by rw[u.out,if_pos (.inl hn0)]);subst hn0;clear u;go_enter func154,ntmps154;go_wp2_with (go_at_call 202;refine(A.out _).mono ?_;rintro e F ⟨rfl,a⟩;have d:=G ((aq o 188 #[.int i64 0,.string ⟨#[]⟩,.int i64 0,.int i64 0]).ext a);have z:=G ((aa o _).trans a);clear a;have X:=d.out.cell;have V:=d.out.frozen);have w:=(d.out.put4 (.int i64 0) (.string ⟨#[]⟩) (.int i64 0) (.int i64 0)).cell;exact bodyPost_ret (v:=dg (.error 3)) (by simp[results,results154,go_sem,dg,w]) rfl ⟨by rw[y.out],z.out.put4 (ah _) _ _ _ _⟩
 ·have af:0<m.length:=J
  have aw:1<(Z (c::m)).size:=by rw[H];omega
  have an:(Z (c::m))[1]=m[0]:=rfl;have ay:((n:Int)==0)=false:=by simp[hn0]
  by_cases hq:m[0]=39
  ·have y:=G (show kg (c::m)=.error 3 by rw[u.out,if_pos (.inr (.inl (by rw[kQ,aH af,hq])))]);rw[hq]at an;clear u hn0 hq;go_enter func154,ntmps154;go_wp2_with (go_at_call 202;refine(A.out _).mono ?_;rintro e F ⟨rfl,a⟩;have d:=G ((aq o 188 #[.int i64 0,.string ⟨#[]⟩,.int i64 0,.int i64 0]).ext a);have z:=G ((aa o _).trans a);clear a;have X:=d.out.cell;have V:=d.out.frozen);have w:=(d.out.put4 (.int i64 0) (.string ⟨#[]⟩) (.int i64 0) (.int i64 0)).cell;exact bodyPost_ret (v:=dg (.error 3)) (by simp[results,results154,go_sem,dg,w]) rfl ⟨by rw[y.out],z.out.put4 (ah _) _ _ _ _⟩
  ·have R:m.head? ≠some 39:=by rw[kQ,aH af];intro e;exact hq (I e)
   have ax:((m[0].toNat:Int)==39)=false:=(eG m[0] 39 J).trans (Qn.2 hq);generalize m[0]=aD at*;by_cases hln:m.length<n+1
   ·have y:=G (show kg (c::m)=.error 3 by rw[u.out,if_pos (.inr (.inr (by rw[qS _ _ J];simp)))]);have ai:(m.length:Int)+1<n+2:=J
    clear u hn0 hq R;go_enter func154,ntmps154;go_wp2_with (go_at_call 202;refine(A.out _).mono ?_;rintro e F ⟨rfl,a⟩;have d:=G ((aq o 188 #[.int i64 0,.string ⟨#[]⟩,.int i64 0,.int i64 0]).ext a);have z:=G ((aa o _).trans a);clear a;have X:=d.out.cell;have V:=d.out.frozen);have w:=(d.out.put4 (.int i64 0) (.string ⟨#[]⟩) (.int i64 0) (.int i64 0)).cell;exact bodyPost_ret (v:=dg (.error 3)) (by simp[results,results154,go_sem,dg,w]) rfl ⟨by rw[y.out],z.out.put4 (ah _) _ _ _ _⟩
   ·have ad:n<m.length:=J
    have av:n+1<(Z (c::m)).size:=by rw[H];omega
    have al:(Z (c::m))[n+1]=m[n]:=rfl;have ai: ¬(m.length:Int)+1<n+2:=J
    by_cases he:m[n]=39
    ·have y:=G (show kg (c::m)=.ok ((3,[],(v.toNat:Int)),n+2) by
      rw[u.out,if_neg];rintro(h|h|h)
      ·exact hn0 h
      ·exact R h
      ·exact h (by rw[pm _ _ ad,he]))
     rw[he]at al;clear u hn0 hq R he;go_enter func154,ntmps154;go_wp2_with (go_at_call 202;refine(A.out _).mono ?_;rintro e F ⟨rfl,a⟩;have d:=G ((aq o 188 #[.int i64 0,.string ⟨#[]⟩,.int i64 0,.int i64 0]).ext a);have z:=G ((aa o _).trans a);clear a;have X:=d.out.cell;have V:=d.out.frozen);have w:=(d.out.put4 (.int i64 3) (.string ⟨#[]⟩) (.int i64 (v.toNat:Int)) (.int i64 0)).cell;exact bodyPost_ret (v:=dg (.ok ((3,[],(v.toNat:Int)),n+2))) (by simp[results,results154,go_sem,dg,w];rfl) rfl ⟨by rw[y.out],z.out.put4 (ah _) _ _ _ _⟩
    ·have y:=G (show kg (c::m)=.error 3 by
      rw[u.out,if_pos (.inr (.inr (by rw[pm _ _ ad];intro e;exact he (I e))))])
     have am:((m[n].toNat:Int)==39)=false:=(eG m[n] 39 J).trans (Qn.2 he);have aB:((m[n].toNat:Int) !=39)=true:=by rw[bne,am];rfl
     generalize m[n]=ao at*;clear u hn0 hq R he;go_enter func154,ntmps154;go_wp2_with (go_at_call 202;refine(A.out _).mono ?_;rintro e F ⟨rfl,a⟩;have d:=G ((aq o 188 #[.int i64 0,.string ⟨#[]⟩,.int i64 0,.int i64 0]).ext a);have z:=G ((aa o _).trans a);clear a;have X:=d.out.cell;have V:=d.out.frozen);have w:=(d.out.put4 (.int i64 0) (.string ⟨#[]⟩) (.int i64 0) (.int i64 0)).cell;exact bodyPost_ret (v:=dg (.error 3)) (by simp[results,results154,go_sem,dg,w]) rfl ⟨by rw[y.out],z.out.put4 (ah _) _ _ _ _⟩
theorem bt:mo prog 36 5:=⟨underlying36,by kernel_rfl⟩
theorem Sl.one (a:World) (v:UInt8):Sl (a.alloc (.cells #[.int .u8 (v.toNat:Int)] 5)) (some ⟨a.heap.size,0,none⟩) 1 [v]:=
 ⟨by simp,by simp[maxLen],(λh=>by cases h),.inr ⟨a.heap.size,0,rfl,by simp,λi hi=>by
  have d:i=0:=by simp at hi;omega
  subst d;rw[(aq a 5 #[.int .u8 (v.toNat:Int)]).cell]
  rfl⟩⟩
theorem tI {m:List UInt8} {j:Nat} (d:j<m.length) (a:m[j]=34):k9 (m.drop j)=some ([],1):=by
 rw[ap d,a];exact Ca _
theorem tJ {m:List UInt8} {j:Nat} (h:j<m.length) (d:m[j]≠34) (a:(cY (m.drop j)).2=0):k9 (m.drop j)=none:=by
 rw[ap h]at a⊢;exact Cb d a
theorem rI {m:List UInt8} {j:Nat} (o:j<m.length) (d:m[j]≠34) (h:(cY (m.drop j)).2≠0):k9 (m.drop j)=(k9 (m.drop (j+(cY (m.drop j)).2))).map λx=>((cY (m.drop j)).1::x.1,(cY (m.drop j)).2+x.2):=by
 have e:m.drop (j+(cY (m.drop j)).2)=(m.drop j).drop (cY (m.drop j)).2:=by rw[eh]
 rw[e];generalize a:m.drop j=u at*;rw[ap o]at a;subst a;exact zB d h
theorem y6 (c:UInt8) (m:List UInt8):ky (c::m)=match k9 m with
 |none=> .error 3
 |some (t,n)=>if 128<t.length then .error 6 else .ok ((4,t,0),n+1):=rfl
theorem AM (c:UInt8) (m:List UInt8) (a7:m.length<=100000) (a:World):Calls prog 155 #[.string (Z (c::m))] a λe w'=>e=.returned (dg (ky (c::m)))/\au a w':=by
 have aF:(Z (c::m)).size=m.length+1:=by rw[aZ];rfl
 have o:=G (y6 c m);go_enter func155,ntmps155;go_wp2_with fail
 go_loopw [5,6] (λaB ad wr=> ∃(B:Option Addr) (X:Nat) (b:List UInt8) (j:Nat),aB=.slice B b.length X/\im wr (a.heap.size+1) 5 (.slice B b.length X) b/\ad=.int i64 ((j+1:Nat):Int)/\j<=m.length/\b.length<=j/\
   Hid (k9 m=(k9 (m.drop j)).map λx=>(b++x.1,j+x.2))/\aO wr a.heap.size 188 #[.int i64 0,.string ⟨#[]⟩,.int i64 0,.int i64 0]/\au a wr) (λ_ ad _=>m.length+1-(intOf ad).toNat)
 case atStart=>
  refine⟨none,0,[],0,rfl,im.nil_ _ _ _,rfl,aD _,aD _,G ?_,aq a _ _,aa a _⟩
  cases F:k9 m<;>simp[F]
 case round=>
  obtain⟨B,X,b,j,rfl,an,rfl,a9,bd,u,A,al⟩:=hrel;have ay:=G an;have w:=G A;have R:=G al;have ag:=A.cell;have af:=A.frozen;have aY:=A.lt;clear an A al;have aI:((j+1:Nat):Int)=(j:Int)+1:=J
  rw[aI];by_cases hlt:j<m.length
  ·have a8:j+1<(Z (c::m)).size:=by rw[aF];omega
   have aL:(Z (c::m))[j+1]=m[j]:=rfl;have aG:(j:Int)+1<m.length+1:=J
   by_cases h34:m[j]=34
   ·have V:k9 m=some (b,j+1):=by rw[u.out,tI hlt h34];simp
    rw[h34]at aL;by_cases h128:128<b.length
    ·have z:=G (show ky (c::m)=.error 6 by rw[o.out,V];simp only;rw[if_pos h128]);have aN:(128:Int)<b.length:=J
     clear h34 V o u;go_wp2_with fail;have y:=(w.out.put4 (.int i64 0) (.string ⟨#[]⟩) (.int i64 0) (.int i64 0)).cell;exact bodyPost_ret (v:=dg (.error 6)) (by simp[results,results155,go_sem,dg,y]) rfl ⟨by rw[z.out],R.out.put4 (ah _) _ _ _ _⟩
    ·have z:=G (show ky (c::m)=.ok ((4,b,0),j+1+1) by rw[o.out,V];simp only;rw[if_neg h128]);have aN: ¬(128:Int)<b.length:=J
     have bc:=ay.out.sl.2.convert (P:=prog) (src:=36) (dst:=9) underlying36 underlying5 underlying9;clear h34 V o u;go_wp2_with fail;have y:=(w.out.put4 (.int i64 4) (.string (Z b)) (.int i64 0) (.int i64 0)).cell;exact bodyPost_ret (v:=dg (.ok ((4,b,0),j+1+1))) (by simp[results,results155,go_sem,dg,y]) rfl ⟨by rw[z.out],R.out.put4 (ah _) _ _ _ _⟩
   ·have aJ:((m[j].toNat:Int)==34)=false:=(eG m[j] 34 J).trans (Qn.2 h34);have ba:((m[j].toNat:Int) !=34)=true:=by rw[bne,aJ];rfl
    have bb:(Z (c::m)).extract (j+1) (m.length+1)=Z (m.drop j):=by
     have:=fN (c::m) (j+1) (m.length+1);rw[bQ Qe]at this;exact this
    have aA:=G (λa=>vD (m.drop j) a (by rw[bK];omega));obtain⟨aH,a6⟩:=md (m.drop j);rw[bK]at aH;have aj:=G (λF=>tJ (m:=m) hlt h34 F);have ai:=G (λF=>rI (m:=m) hlt h34 F);generalize aE:(cY (m.drop j)).1=v at*;generalize ap:(cY (m.drop j)).2=n at*;generalize m[j]=be at*;have bf:=G ap;have a3:=v.toNat_lt;have a2:(v.toNat:Int)<256:=J
    clear aE ap h34;generalize aw:m.drop j=aX at*;have bg:=G aw;clear aw;by_cases hn0:n=0
    ·have z:=G (show ky (c::m)=.error 3 by rw[o.out,u.out,aj.out hn0];rfl);subst hn0;clear o u aj ai;go_wp2_with (go_at_call 202;refine(aA.out _).mono ?_;rintro e I ⟨rfl,d⟩;have w:=G (w.out.ext d);have aT:=G (R.out.trans d);clear d ag af;have ag:=w.out.cell;have af:=w.out.frozen);have y:=(w.out.put4 (.int i64 0) (.string ⟨#[]⟩) (.int i64 0) (.int i64 0)).cell;exact bodyPost_ret (v:=dg (.error 3)) (by simp[results,results155,go_sem,dg,y]) rfl ⟨by rw[z.out],aT.out.put4 (ah _) _ _ _ _⟩
    ·have a4:((n:Int)==0)=false:=by simp[hn0]
     have a5:1<=n:=J
     have aR:=G (show k9 m=(k9 (m.drop (j+n))).map λx=>((b++[v])++x.1,(j+n)+x.2) by
      rw[u.out,ai.out hn0,Option.map_map]
      congr 1
      funext x
      simp[fw])
     clear o u aj ai hn0
     go_wp2_with (first
      |(go_at_call 202;refine(aA.out _).mono ?_;rintro e I ⟨rfl,d⟩;have ax:=G (ay.out.ext (d.alloc' (.cells #[.int .u8 (v.toNat:Int)] 5)));have aU:=G (w.out.ext (d.alloc' (.cells #[.int .u8 (v.toNat:Int)] 5)));have aS:=G (R.out.trans (d.alloc' (.cells #[.int .u8 (v.toNat:Int)] 5)));have a1:=d.size;clear d ag af)
      |(at_builtin;refine eO bt rfl _ _ rfl (a.heap.size+1) (.slice B b.length X) b rfl ax.out (some ⟨I.heap.size,0,none⟩) 1 [v] rfl (Sl.one I v) Qg Qg ?_;intro aV aP aW ao av _;have aQ:=G ao;have az:=G av;clear ao av))
     go_roundw
     case rel=>
      have am:=λk ae=>(World.ownsRow.lt ax.out k ae).1;have aC:=aS.out.grown az.out (λk ae=>by have:=am k ae;omega);have aM:=aU.out.grown az.out (λe=>by have:=am _ e.symm;omega);refine⟨aV,aP,b++[v],j+n,by rw[H];rfl,?_,by go_num,by omega,by rw[H];simp;omega,aR,aM,aC⟩;rw[H];exact aQ.out
     case measure=>simp[intOf];omega
  ·have ar:m.drop j=[]:=aK J;have z:=G (show ky (c::m)=.error 3 by rw[o.out,u.out,ar];rfl);have aG: ¬(j:Int)+1<m.length+1:=J
   clear o u ar;go_wp2_with fail;have y:=(w.out.put4 (.int i64 0) (.string ⟨#[]⟩) (.int i64 0) (.int i64 0)).cell;exact bodyPost_ret (v:=dg (.error 3)) (by simp[results,results155,go_sem,dg,y]) rfl ⟨by rw[z.out],R.out.put4 (ah _) _ _ _ _⟩
theorem uR (c:UInt8):0<=Lib.indexByte qH c↔qH.contains c=true:=by
 rcases qh c qH with⟨d,a⟩|⟨d,a⟩
 ·rw[d,a];simp
 ·rw[a];simp[d]
theorem ut (a b:UInt8) (l:List UInt8):([a,b]:List UInt8).isPrefixOf l=(l.take 2==[a,b]):=by
 match l with
 | []=>rfl
 | [c]=>simp[List.isPrefixOf]
 |c::d::r=>
  simp only[List.isPrefixOf,gQ,jp,List.take_zero];rw[show(a==c)=(c==a)from BEq.comm,show(b==d)=(d==b)from BEq.comm];simp
def iK (i:Nat) (l:List UInt8):Bool:=(two.getD i []).isPrefixOf l
theorem AE (l:List UInt8):two.contains (l.take 2)=(iK 0 l||iK 1 l||iK 2 l||iK 3 l||iK 4 l||iK 5 l):=by
 unfold iK two;simp only[List.getD_cons_zero,List.getD_cons_succ,ut,ib,List.contains_nil,mU,Bool.or_assoc]
theorem BL {i:Nat} {l:List UInt8} (hi:i<6) (a:iK i l=true):l.take 2=two.getD i []:=by
 unfold iK two at a;unfold two;have d:i=0\/i=1\/i=2\/i=3\/i=4\/i=5:=J
 rcases d with rfl|rfl|rfl|rfl|rfl|rfl<;>(simp only[List.getD_cons_zero,List.getD_cons_succ,ut]at a⊢;exact beq_iff_eq.1 a)
theorem kH {l:List UInt8} {i:Nat} {t:List UInt8} (hi:i<6) (a:two.getD i []=t) (h:iK i l=true) (d:two.contains (l.take 2)=true):j_ l=.ok ((5,t,0),2):=by
 unfold j_;rw[if_pos d,BL hi h,a]
theorem B_ (c:UInt8) (m:List UInt8) (ad:m.length<=100000) (a:World):Calls prog 156 #[.string (Z (c::m))] a λe w'=>e=.returned (dg (j_ (c::m)))/\au a w':=by
 have V:(Z (c::m)).size=m.length+1:=by rw[aZ];rfl
 have ag:0<(Z (c::m)).size:=by rw[V];omega
 have ae:(Z (c::m))[0]=c:=rfl;have af:(Z (c::m)).extract 0 1=Z [c]:=by rw[fN];rfl
 have I:=G (AE (c::m));have z:=G (λa (p:List UInt8)=>qE (c::m) p a);have H:=G (λa=>pj qH c a);go_enter func156,ntmps156;go_wp2_with fail
 go_loop [8] (λy=>(y=.int i64 0/\Hid (two.contains ((c::m).take 2)=(iK 0 (c::m)||iK 1 (c::m)||iK 2 (c::m)||iK 3 (c::m)||iK 4 (c::m)||iK 5 (c::m))))\/(y=.int i64 1/\Hid (two.contains ((c::m).take 2)=(iK 1 (c::m)||iK 2 (c::m)||iK 3 (c::m)||iK 4 (c::m)||iK 5 (c::m))))\/(y=.int i64 2/\Hid (two.contains ((c::m).take 2)=(iK 2 (c::m)||iK 3 (c::m)||iK 4 (c::m)||iK 5 (c::m))))\/(y=.int i64 3/\Hid (two.contains ((c::m).take 2)=(iK 3 (c::m)||iK 4 (c::m)||iK 5 (c::m))))\/(y=.int i64 4/\Hid (two.contains ((c::m).take 2)=(iK 4 (c::m)||iK 5 (c::m))))\/(y=.int i64 5/\Hid (two.contains ((c::m).take 2)=(iK 5 (c::m))))\/(y=.int i64 6/\Hid (two.contains ((c::m).take 2)=(false)))) (λy=>7-(intOf y).toNat)
 case atStart=>exact .inl ⟨rfl,I⟩
 case round=>
  rcases hrel with⟨rfl,d⟩|⟨rfl,d⟩|⟨rfl,d⟩|⟨rfl,d⟩|⟨rfl,d⟩|⟨rfl,d⟩|⟨rfl,d⟩
  ·have A: ∀a:World,(Instr.index 282 (.agg #[.string ⟨#[61,61]⟩,.string ⟨#[33,61]⟩,.string ⟨#[60,61]⟩,.string ⟨#[62,61]⟩,.string ⟨#[38,38]⟩,.string ⟨#[124,124]⟩]) (.int i64 0)).run prog a=.ok (.string ⟨#[61,61]⟩) a:=λa=>by(show _=_;kernel_rfl)
   have o:=G (λa=>(show Calls prog 150 #[.string (Z (c::m)),.string ⟨#[61,61]⟩] a λe w'=>e=.returned (.bool (iK 0 (c::m)))/\a=w' from z.out a [61,61]))
   cases hp:iK 0 (c::m)with
   |true=>
    have u:=G (kH (i:=0) (t:=[61,61]) J rfl hp (by rw[d.out,hp];simp));rw[hp]at o;clear hp d;go_wp2_with (go_at_call 150;refine(o.out _).mono ?_;rintro e w' ⟨rfl,rfl⟩);exact bodyPost_ret (v:=dg (.ok ((5,[61,61],0),2))) (by simp[results,results156,go_sem,dg];rfl) rfl ⟨by rw[u.out],aa a _⟩
   |false=>
    have w:=G (show two.contains ((c::m).take 2)=(iK 1 (c::m)||iK 2 (c::m)||iK 3 (c::m)||iK 4 (c::m)||iK 5 (c::m)) by rw[d.out,hp];simp);rw[hp]at o;clear hp d;go_wp2_with (go_at_call 150;refine(o.out _).mono ?_;rintro e w' ⟨rfl,rfl⟩)
    go_round
    case rel=>exact .inr (.inl ⟨rfl,w⟩)
    case measure=>simp[intOf]
  ·have A: ∀a:World,(Instr.index 282 (.agg #[.string ⟨#[61,61]⟩,.string ⟨#[33,61]⟩,.string ⟨#[60,61]⟩,.string ⟨#[62,61]⟩,.string ⟨#[38,38]⟩,.string ⟨#[124,124]⟩]) (.int i64 1)).run prog a=.ok (.string ⟨#[33,61]⟩) a:=λa=>by(show _=_;kernel_rfl)
   have o:=G (λa=>(show Calls prog 150 #[.string (Z (c::m)),.string ⟨#[33,61]⟩] a λe w'=>e=.returned (.bool (iK 1 (c::m)))/\a=w' from z.out a [33,61]))
   cases hp:iK 1 (c::m)with
   |true=>
    have u:=G (kH (i:=1) (t:=[33,61]) J rfl hp (by rw[d.out,hp];simp));rw[hp]at o;clear hp d;go_wp2_with (go_at_call 150;refine(o.out _).mono ?_;rintro e w' ⟨rfl,rfl⟩);exact bodyPost_ret (v:=dg (.ok ((5,[33,61],0),2))) (by simp[results,results156,go_sem,dg];rfl) rfl ⟨by rw[u.out],aa a _⟩
   |false=>
    have w:=G (show two.contains ((c::m).take 2)=(iK 2 (c::m)||iK 3 (c::m)||iK 4 (c::m)||iK 5 (c::m)) by rw[d.out,hp];simp);rw[hp]at o;clear hp d;go_wp2_with (go_at_call 150;refine(o.out _).mono ?_;rintro e w' ⟨rfl,rfl⟩)
    go_round
    case rel=>exact .inr (.inr (.inl ⟨rfl,w⟩))
    case measure=>simp[intOf]
  ·have A: ∀a:World,(Instr.index 282 (.agg #[.string ⟨#[61,61]⟩,.string ⟨#[33,61]⟩,.string ⟨#[60,61]⟩,.string ⟨#[62,61]⟩,.string ⟨#[38,38]⟩,.string ⟨#[124,124]⟩]) (.int i64 2)).run prog a=.ok (.string ⟨#[60,61]⟩) a:=λa=>by(show _=_;kernel_rfl)
   have o:=G (λa=>(show Calls prog 150 #[.string (Z (c::m)),.string ⟨#[60,61]⟩] a λe w'=>e=.returned (.bool (iK 2 (c::m)))/\a=w' from z.out a [60,61]))
   cases hp:iK 2 (c::m)with
   |true=>
    have u:=G (kH (i:=2) (t:=[60,61]) J rfl hp (by rw[d.out,hp];simp));rw[hp]at o;clear hp d;go_wp2_with (go_at_call 150;refine(o.out _).mono ?_;rintro e w' ⟨rfl,rfl⟩);exact bodyPost_ret (v:=dg (.ok ((5,[60,61],0),2))) (by simp[results,results156,go_sem,dg];rfl) rfl ⟨by rw[u.out],aa a _⟩
   |false=>
    have w:=G (show two.contains ((c::m).take 2)=(iK 3 (c::m)||iK 4 (c::m)||iK 5 (c::m)) by rw[d.out,hp];simp);rw[hp]at o;clear hp d;go_wp2_with (go_at_call 150;refine(o.out _).mono ?_;rintro e w' ⟨rfl,rfl⟩)
    go_round
    case rel=>exact .inr (.inr (.inr (.inl ⟨rfl,w⟩)))
    case measure=>simp[intOf]
  ·have A: ∀a:World,(Instr.index 282 (.agg #[.string ⟨#[61,61]⟩,.string ⟨#[33,61]⟩,.string ⟨#[60,61]⟩,.string ⟨#[62,61]⟩,.string ⟨#[38,38]⟩,.string ⟨#[124,124]⟩]) (.int i64 3)).run prog a=.ok (.string ⟨#[62,61]⟩) a:=λa=>by(show _=_;kernel_rfl)
   have o:=G (λa=>(show Calls prog 150 #[.string (Z (c::m)),.string ⟨#[62,61]⟩] a λe w'=>e=.returned (.bool (iK 3 (c::m)))/\a=w' from z.out a [62,61]))
   cases hp:iK 3 (c::m)with
   |true=>
    have u:=G (kH (i:=3) (t:=[62,61]) J rfl hp (by rw[d.out,hp];simp));rw[hp]at o;clear hp d;go_wp2_with (go_at_call 150;refine(o.out _).mono ?_;rintro e w' ⟨rfl,rfl⟩);exact bodyPost_ret (v:=dg (.ok ((5,[62,61],0),2))) (by simp[results,results156,go_sem,dg];rfl) rfl ⟨by rw[u.out],aa a _⟩
   |false=>
    have w:=G (show two.contains ((c::m).take 2)=(iK 4 (c::m)||iK 5 (c::m)) by rw[d.out,hp];simp);rw[hp]at o;clear hp d;go_wp2_with (go_at_call 150;refine(o.out _).mono ?_;rintro e w' ⟨rfl,rfl⟩)
    go_round
    case rel=>exact .inr (.inr (.inr (.inr (.inl ⟨rfl,w⟩))))
    case measure=>simp[intOf]
  ·have A: ∀a:World,(Instr.index 282 (.agg #[.string ⟨#[61,61]⟩,.string ⟨#[33,61]⟩,.string ⟨#[60,61]⟩,.string ⟨#[62,61]⟩,.string ⟨#[38,38]⟩,.string ⟨#[124,124]⟩]) (.int i64 4)).run prog a=.ok (.string ⟨#[38,38]⟩) a:=λa=>by(show _=_;kernel_rfl)
   have o:=G (λa=>(show Calls prog 150 #[.string (Z (c::m)),.string ⟨#[38,38]⟩] a λe w'=>e=.returned (.bool (iK 4 (c::m)))/\a=w' from z.out a [38,38]))
   cases hp:iK 4 (c::m)with
   |true=>
    have u:=G (kH (i:=4) (t:=[38,38]) J rfl hp (by rw[d.out,hp];simp));rw[hp]at o;clear hp d;go_wp2_with (go_at_call 150;refine(o.out _).mono ?_;rintro e w' ⟨rfl,rfl⟩);exact bodyPost_ret (v:=dg (.ok ((5,[38,38],0),2))) (by simp[results,results156,go_sem,dg];rfl) rfl ⟨by rw[u.out],aa a _⟩
   |false=>
    have w:=G (show two.contains ((c::m).take 2)=(iK 5 (c::m)) by rw[d.out,hp];simp);rw[hp]at o;clear hp d;go_wp2_with (go_at_call 150;refine(o.out _).mono ?_;rintro e w' ⟨rfl,rfl⟩)
    go_round
    case rel=>exact .inr (.inr (.inr (.inr (.inr (.inl ⟨rfl,w⟩)))))
    case measure=>simp[intOf]
  ·have A: ∀a:World,(Instr.index 282 (.agg #[.string ⟨#[61,61]⟩,.string ⟨#[33,61]⟩,.string ⟨#[60,61]⟩,.string ⟨#[62,61]⟩,.string ⟨#[38,38]⟩,.string ⟨#[124,124]⟩]) (.int i64 5)).run prog a=.ok (.string ⟨#[124,124]⟩) a:=λa=>by(show _=_;kernel_rfl)
   have o:=G (λa=>(show Calls prog 150 #[.string (Z (c::m)),.string ⟨#[124,124]⟩] a λe w'=>e=.returned (.bool (iK 5 (c::m)))/\a=w' from z.out a [124,124]))
   cases hp:iK 5 (c::m)with
   |true=>
    have u:=G (kH (i:=5) (t:=[124,124]) J rfl hp (by rw[d.out,hp]));rw[hp]at o;clear hp d;go_wp2_with (go_at_call 150;refine(o.out _).mono ?_;rintro e w' ⟨rfl,rfl⟩);exact bodyPost_ret (v:=dg (.ok ((5,[124,124],0),2))) (by simp[results,results156,go_sem,dg];rfl) rfl ⟨by rw[u.out],aa a _⟩
   |false=>
    have w:=G (show two.contains ((c::m).take 2)=(false) by rw[d.out,hp]);rw[hp]at o;clear hp d;go_wp2_with (go_at_call 150;refine(o.out _).mono ?_;rintro e w' ⟨rfl,rfl⟩)
    go_round
    case rel=>exact .inr (.inr (.inr (.inr (.inr (.inr (⟨rfl,w⟩))))))
    case measure=>simp[intOf]
  ·have F:=G (λa=>(show Calls prog 149 #[.string ⟨#[40,41,123,125,91,93,44,59,61,43,45,42,47,37,60,62,33]⟩,.int .u8 (c.toNat:Int)] a λe w'=>e=.returned (.int i64 (Lib.indexByte qH c))/\a=w' from H.out a));by_cases h1:0<=Lib.indexByte qH c
   ·have u:=G (show j_ (c::m)=.ok ((5,[c],0),1) by
     unfold j_;rw[d.out,if_neg Qe,if_pos]
     ·rfl
     ·show(some c).any (λc=>qH.contains c)=true
      simpa using(uR c).1 h1)
    generalize Lib.indexByte qH c=R at*;clear d;go_wp2_with (go_at_call 149;refine(F.out _).mono ?_;rintro e w' ⟨rfl,rfl⟩);exact bodyPost_ret (v:=dg (.ok ((5,[c],0),1))) (by simp[results,results156,go_sem,dg]) rfl ⟨by rw[u.out],aa a _⟩
   ·have u:=G (show j_ (c::m)=.error 3 by
     unfold j_;rw[d.out,if_neg Qe,if_neg];show ¬(some c).any (λc=>qH.contains c)=true;intro X
     exact h1 ((uR c).2 (by simpa using X)))
    generalize Lib.indexByte qH c=R at*;clear d;go_wp2_with (go_at_call 149;refine(F.out _).mono ?_;rintro e w' ⟨rfl,rfl⟩);exact bodyPost_ret (v:=dg (.error 3)) (by simp[results,results156,go_sem,dg]) rfl ⟨by rw[u.out],aa a _⟩
def EZ (w:World):Prop:=(∃ev,w.cell? ⟨4,0,none⟩=some ev/\(ev=.nilIface\/ ∃te pe,ev=.iface te pe))/\(∃ev,w.cell? ⟨5,0,none⟩=some ev/\(ev=.nilIface\/ ∃te pe,ev=.iface te pe))
theorem EZ.ext {a w':World} (o:EZ a) (d:au a w'):EZ w':=by
 obtain⟨⟨w,h,u⟩,b,b1,b2⟩:=o;exact⟨⟨w,(d.cell _ _ (World.block_lt_of_cell? _ _ h)).trans h,u⟩,b,(d.cell _ _ (World.block_lt_of_cell? _ _ b1)).trans b1,b2⟩
theorem rX (p:UInt8->Bool): ∀l:List UInt8,∀c∈l.take (cN p l),p c=true
 | [],c,h=>by simp at h
 |x::l,c,h=>by
  simp only[cN]at h;split at h
  ·rename_i a;rw[jp]at h;rcases List.mem_cons.1 h with rfl|h
   ·exact a
   ·exact rX p l c h
  ·simp at h
def vI (acc:Nat) (l:List UInt8):Nat:=l.foldl (λv c=>v*10+(c.toNat-48)) acc
theorem yr: ∀(l:List UInt8) (a:Nat),a<=vI a l
 | [],a=>ah _
 |c::l,a=>by
  have:=yr l (a*10+(c.toNat-48));show a<=vI (a*10+(c.toNat-48)) l;omega
theorem pK: ∀(l:List UInt8) (a:Nat),(∀c∈l,fT c=true)->Lib.parseUint10 a l=.ok (vI a l)\/(Lib.parseUint10 a l=.range/\18446744073709551616<=vI a l)
 | [],a,_=> .inl rfl
 |c::l,a,h=>by
  have u:48<=c.toNat/\c.toNat<=57:=by have:=h c (g_ ..);unfold fT at this;simpa using this
  have y:=yr l (a*10+(c.toNat-48));have d:vI a (c::l)=vI (a*10+(c.toNat-48)) l:=rfl;simp only[Lib.parseUint10];rw[if_pos u,d];split
  ·exact .inr ⟨rfl,by omega⟩
  ·split
   ·exact .inr ⟨rfl,by omega⟩
   ·exact pK l _ λw o=>h w (i_ _ o)
theorem vY {l:List UInt8} (z:l≠ []) (y: ∀c∈l,fT c=true):(Lib.atoiAll l=.ok (oK l:Int))\/(Lib.atoiAll l=.range/\Lib.atoiSat l=9223372036854775807/\9223372036854775808<=oK l):=by
 match l with
 | []=>exact absurd rfl z
 |c::r=>
  have A:48<=c.toNat/\c.toNat<=57:=by have:=y c (g_ ..);unfold fT at this;simpa using this
  have w: ¬c.toNat=45:=J
  have o: ¬(c.toNat=43\/c.toNat=45):=J
  have h:oK (c::r)=vI 0 (c::r):=rfl;have u:Lib.atoiSat (c::r)=9223372036854775807:=by
   unfold Lib.atoiSat;rw[if_neg Qg]
  have d:Lib.parseMag (c::r)=Lib.parseUint10 0 (c::r):=by unfold Lib.parseMag;rw[if_neg Qe]
  rcases pK (c::r) 0 y with a|⟨a,h2⟩
  ·by_cases hb:9223372036854775808<=vI 0 (c::r)
   ·refine .inr ⟨?_,u,by rw[h];exact hb⟩;simp only[Lib.atoiAll];rw[if_neg o,d,a];simp only;rw[if_pos ⟨w,hb⟩]
   ·refine .inl ?_;simp only[Lib.atoiAll];rw[if_neg o,d,a];simp only;rw[if_neg J,if_neg J,if_neg w,h]
  ·refine .inr ⟨?_,u,by rw[h];omega⟩;simp only[Lib.atoiAll];rw[if_neg o,d,a]
theorem Dv (l:List UInt8) (y:l≠ []) (G:l.length<=100000) (h: ∀c∈l,fT c=true) (a:World) (w:EZ a):
  ∃v:Int,(v=oK l\/(v=9223372036854775807/\9223372036854775808<=oK l))/\Calls prog 201 #[.string (Z l)] a λe w'=>(∃F,e=.returned (.tuple #[.int i64 v,F]))/\au a w':=by
 rcases vY y h with d|⟨d,h2,h3⟩
 ·refine⟨oK l,.inl rfl,?_⟩;refine(Tryz.strconv_Atoi_ok (Z l) (by rw[aZ];omega) (oK l) (by rw[jJ];exact d) a).mono ?_;rintro e w' ⟨rfl,h⟩;refine⟨⟨_,rfl⟩,?_⟩;rcases h with rfl|⟨t,rfl⟩
  ·exact aI _
  ·exact Lib.bytesWorld_below _ _ _
 ·refine⟨9223372036854775807,.inr ⟨rfl,h3⟩,?_⟩;obtain⟨A,u,o⟩:=w.2;refine(Tryz.strconv_Atoi_range (Z l) (by rw[aZ];omega) (by rw[jJ];exact d) A a u o).mono ?_;rintro e w' ⟨N,rfl,_,_,z⟩;rw[jJ,h2];exact⟨⟨_,rfl⟩,z⟩
theorem BW (c:UInt8) (m:List UInt8) {n:Nat} {x:List UInt8} (d:cN fT (c::m)=n) (a:(c::m).take n=x):jO (c::m)=if((c::m).drop n).head?.any gq then .error 3 else if 10<n\/(1<n/\c=48)\/2147483647<oK x then .error 2 else .ok ((3,[],oK x),n):=by
 subst d;subst a;unfold jO;simp
theorem Em (c:UInt8) (m:List UInt8) {n:Nat} (d:n<=m.length+1) (a: ¬n<m.length+1):((c::m).drop n).head?.any gq=false:=by
 rw[aK Qg];rfl
theorem GD (c:UInt8) (m:List UInt8) {n:Nat} (a:n<(c::m).length):((c::m).drop n).head?.any gq=gq (c::m)[n]:=by
 rw[pm _ _ a];rfl
theorem xh (c:UInt8) (m:List UInt8) (H:fT c=true) (ay:(c::m).length<=100000) (am:World) (aB:EZ am):Calls prog 153 #[.string (Z (c::m))] am λe w'=>e=.returned (dg (jO (c::m)))/\au am w':=by
 have ax:(Z (c::m)).size=m.length+1:=by rw[aZ];rfl
 have aO:0<(Z (c::m)).size:=by rw[ax];omega
 have aM:(Z (c::m))[0]=c:=rfl;have aL:m.length<=99999:=by simpa using ay
 have aG:cN fT (c::m)<=m.length+1:=jK fT (c::m);have aK:1<=cN fT (c::m):=by simp[cN,H]
 have az:=rX fT (c::m);have aH:=fN (c::m) 0 (cN fT (c::m));simp only[aw]at aH;have ae:=G (λam=>uE fT 152 pp (.inr rfl) (c::m) ay am);have aA:=λx o=>G (BW c m (n:=cN fT (c::m)) (x:=x) rfl o);have ad:=G (aa am (.cells #[.int i64 0,.string ⟨#[]⟩,.int i64 0,.int i64 0] 188));have af:=G (aq am 188 #[.int i64 0,.string ⟨#[]⟩,.int i64 0,.int i64 0]);have ar:(c::m).take (cN fT (c::m))≠ []:=by intro o;have:=congrArg List.length o;simp at this;omega
 have av:((c::m).take (cN fT (c::m))).length<=100000:=by have:=List.length_take_le' (cN fT (c::m)) (c::m);omega
 obtain⟨v,aD,I⟩:=Dv ((c::m).take (cN fT (c::m))) ar av az _ (aB.ext ad.out);have I:=G I;have w:=aA _ rfl;clear aA;generalize aE:cN fT (c::m)=n at*;generalize aC:(c::m).take n=x at*;clear aE ar az av aC;have F:v<=2147483647->v=oK x:=J
 have R:2147483647<v->2147483647<oK x:=J
 have V:v<=2147483647-> ¬2147483647<oK x:=J
 clear aD;by_cases hlt:n<m.length+1
 ·have aJ:n<(Z (c::m)).size:=by rw[ax];exact hlt
  have aN:(Z (c::m))[n]=(c::m)[n]'hlt:=rfl;have u:=GD c m (n:=n) hlt;have X:=G (oq ((c::m)[n]'hlt));have aF:(n:Int)<m.length+1:=J
  generalize (c::m)[n]'hlt=aI at*
  cases hp:gq aI with
  |true=>
   rw[hp]at X u;have A:=G (show jO (c::m)=.error 3 by rw[w.out,u,if_pos rfl]);clear u hp;clear w H F R V;go_enter func153,ntmps153
   go_wp2_with (first
    |(go_at_call 200;refine(ae.out _).mono ?_;rintro e w' ⟨rfl,rfl⟩)
    |(go_at_call 201;refine I.out.mono ?_;rintro e ag ⟨⟨al,rfl⟩,a⟩;have d:=G (af.out.ext a);have z:=G (ad.out.trans a);clear a;have aj:=d.out.cell;have ai:=d.out.frozen)
    |(go_at_call 107;refine(X.out _).mono ?_;rintro e w' ⟨rfl,rfl⟩))
   have y:=(d.out.put4 (.int i64 0) (.string ⟨#[]⟩) (.int i64 0) (.int i64 0)).cell;exact bodyPost_ret (v:=dg (.error 3)) (by simp[results,results153,go_sem,dg,y]) rfl ⟨by rw[A.out],z.out.put4 (ah _) _ _ _ _⟩
  |false=>
   rw[hp]at X u;clear hp;by_cases hA:10<n
   ·have ap:(10:Int)<n:=J
    have A:=G (show jO (c::m)=.error 2 by rw[w.out,u,if_neg Qe,if_pos (.inl hA)]);clear u;clear w H F R V;go_enter func153,ntmps153
    go_wp2_with (first
     |(go_at_call 200;refine(ae.out _).mono ?_;rintro e w' ⟨rfl,rfl⟩)
     |(go_at_call 201;refine I.out.mono ?_;rintro e ag ⟨⟨al,rfl⟩,a⟩;have d:=G (af.out.ext a);have z:=G (ad.out.trans a);clear a;have aj:=d.out.cell;have ai:=d.out.frozen)
     |(go_at_call 107;refine(X.out _).mono ?_;rintro e w' ⟨rfl,rfl⟩))
    have y:=(d.out.put4 (.int i64 0) (.string ⟨#[]⟩) (.int i64 0) (.int i64 0)).cell;exact bodyPost_ret (v:=dg (.error 2)) (by simp[results,results153,go_sem,dg,y]) rfl ⟨by rw[A.out],z.out.put4 (ah _) _ _ _ _⟩
   ·have ap: ¬(10:Int)<n:=J
    by_cases hB:1<n
    ·have ao:(1:Int)<n:=J
     by_cases hC:c=48
     ·have an:((c.toNat:Int)==48)=true:=by rw[hC];rfl
      have A:=G (show jO (c::m)=.error 2 by rw[w.out,u,if_neg Qe,if_pos (.inr (.inl ⟨hB,hC⟩))]);clear u hC;clear w H F R V;go_enter func153,ntmps153
      go_wp2_with (first
       |(go_at_call 200;refine(ae.out _).mono ?_;rintro e w' ⟨rfl,rfl⟩)
       |(go_at_call 201;refine I.out.mono ?_;rintro e ag ⟨⟨al,rfl⟩,a⟩;have d:=G (af.out.ext a);have z:=G (ad.out.trans a);clear a;have aj:=d.out.cell;have ai:=d.out.frozen)
       |(go_at_call 107;refine(X.out _).mono ?_;rintro e w' ⟨rfl,rfl⟩))
      have y:=(d.out.put4 (.int i64 0) (.string ⟨#[]⟩) (.int i64 0) (.int i64 0)).cell;exact bodyPost_ret (v:=dg (.error 2)) (by simp[results,results153,go_sem,dg,y]) rfl ⟨by rw[A.out],z.out.put4 (ah _) _ _ _ _⟩
     ·have an:((c.toNat:Int)==48)=false:=(eG c 48 J).trans (Qn.2 hC);by_cases hV:2147483647<v
      ·have A:=G (show jO (c::m)=.error 2 by rw[w.out,u,if_neg Qe,if_pos (.inr (.inr (R hV)))]);clear u;clear hC;clear w H F R V;go_enter func153,ntmps153
       go_wp2_with (first
        |(go_at_call 200;refine(ae.out _).mono ?_;rintro e w' ⟨rfl,rfl⟩)
        |(go_at_call 201;refine I.out.mono ?_;rintro e ag ⟨⟨al,rfl⟩,a⟩;have d:=G (af.out.ext a);have z:=G (ad.out.trans a);clear a;have aj:=d.out.cell;have ai:=d.out.frozen)
        |(go_at_call 107;refine(X.out _).mono ?_;rintro e w' ⟨rfl,rfl⟩))
       have y:=(d.out.put4 (.int i64 0) (.string ⟨#[]⟩) (.int i64 0) (.int i64 0)).cell;exact bodyPost_ret (v:=dg (.error 2)) (by simp[results,results153,go_sem,dg,y]) rfl ⟨by rw[A.out],z.out.put4 (ah _) _ _ _ _⟩
      ·have A:=G (show jO (c::m)=.ok ((3,[],v),n) by rw[w.out,u,if_neg Qe,if_neg (by rintro(o|o|o);exact hA o;exact(λo:1<n/\c=48=>hC o.2) o;exact V J o),F J]);clear u;clear hC;clear w H F R V;go_enter func153,ntmps153
       go_wp2_with (first
        |(go_at_call 200;refine(ae.out _).mono ?_;rintro e w' ⟨rfl,rfl⟩)
        |(go_at_call 201;refine I.out.mono ?_;rintro e ag ⟨⟨al,rfl⟩,a⟩;have d:=G (af.out.ext a);have z:=G (ad.out.trans a);clear a;have aj:=d.out.cell;have ai:=d.out.frozen)
        |(go_at_call 107;refine(X.out _).mono ?_;rintro e w' ⟨rfl,rfl⟩))
       have y:=(d.out.put4 (.int i64 3) (.string ⟨#[]⟩) (.int i64 v) (.int i64 0)).cell;exact bodyPost_ret (v:=dg (.ok ((3,[],v),n))) (by simp[results,results153,go_sem,dg,y];rfl) rfl ⟨by rw[A.out],z.out.put4 (ah _) _ _ _ _⟩
    ·have ao: ¬(1:Int)<n:=J
     by_cases hV:2147483647<v
     ·have A:=G (show jO (c::m)=.error 2 by rw[w.out,u,if_neg Qe,if_pos (.inr (.inr (R hV)))]);clear u;clear w H F R V;go_enter func153,ntmps153
      go_wp2_with (first
       |(go_at_call 200;refine(ae.out _).mono ?_;rintro e w' ⟨rfl,rfl⟩)
       |(go_at_call 201;refine I.out.mono ?_;rintro e ag ⟨⟨al,rfl⟩,a⟩;have d:=G (af.out.ext a);have z:=G (ad.out.trans a);clear a;have aj:=d.out.cell;have ai:=d.out.frozen)
       |(go_at_call 107;refine(X.out _).mono ?_;rintro e w' ⟨rfl,rfl⟩))
      have y:=(d.out.put4 (.int i64 0) (.string ⟨#[]⟩) (.int i64 0) (.int i64 0)).cell;exact bodyPost_ret (v:=dg (.error 2)) (by simp[results,results153,go_sem,dg,y]) rfl ⟨by rw[A.out],z.out.put4 (ah _) _ _ _ _⟩
     ·have A:=G (show jO (c::m)=.ok ((3,[],v),n) by rw[w.out,u,if_neg Qe,if_neg (by rintro(o|o|o);exact hA o;exact(λo:1<n/\c=48=>hB o.1) o;exact V J o),F J]);clear u;clear w H F R V;go_enter func153,ntmps153
      go_wp2_with (first
       |(go_at_call 200;refine(ae.out _).mono ?_;rintro e w' ⟨rfl,rfl⟩)
       |(go_at_call 201;refine I.out.mono ?_;rintro e ag ⟨⟨al,rfl⟩,a⟩;have d:=G (af.out.ext a);have z:=G (ad.out.trans a);clear a;have aj:=d.out.cell;have ai:=d.out.frozen)
       |(go_at_call 107;refine(X.out _).mono ?_;rintro e w' ⟨rfl,rfl⟩))
      have y:=(d.out.put4 (.int i64 3) (.string ⟨#[]⟩) (.int i64 v) (.int i64 0)).cell;exact bodyPost_ret (v:=dg (.ok ((3,[],v),n))) (by simp[results,results153,go_sem,dg,y];rfl) rfl ⟨by rw[A.out],z.out.put4 (ah _) _ _ _ _⟩
 ·have aF: ¬(n:Int)<m.length+1:=J
  have u:=Em c m aG hlt;have X:=G (oq 0);by_cases hA:10<n
  ·have ap:(10:Int)<n:=J
   have A:=G (show jO (c::m)=.error 2 by rw[w.out,u,if_neg Qe,if_pos (.inl hA)]);clear u;clear w H F R V;go_enter func153,ntmps153
   go_wp2_with (first
    |(go_at_call 200;refine(ae.out _).mono ?_;rintro e w' ⟨rfl,rfl⟩)
    |(go_at_call 201;refine I.out.mono ?_;rintro e ag ⟨⟨al,rfl⟩,a⟩;have d:=G (af.out.ext a);have z:=G (ad.out.trans a);clear a;have aj:=d.out.cell;have ai:=d.out.frozen)
    |(go_at_call 107;refine(X.out _).mono ?_;rintro e w' ⟨rfl,rfl⟩))
   have y:=(d.out.put4 (.int i64 0) (.string ⟨#[]⟩) (.int i64 0) (.int i64 0)).cell;exact bodyPost_ret (v:=dg (.error 2)) (by simp[results,results153,go_sem,dg,y]) rfl ⟨by rw[A.out],z.out.put4 (ah _) _ _ _ _⟩
  ·have ap: ¬(10:Int)<n:=J
   by_cases hB:1<n
   ·have ao:(1:Int)<n:=J
    by_cases hC:c=48
    ·have an:((c.toNat:Int)==48)=true:=by rw[hC];rfl
     have A:=G (show jO (c::m)=.error 2 by rw[w.out,u,if_neg Qe,if_pos (.inr (.inl ⟨hB,hC⟩))]);clear u hC;clear w H F R V;go_enter func153,ntmps153
     go_wp2_with (first
      |(go_at_call 200;refine(ae.out _).mono ?_;rintro e w' ⟨rfl,rfl⟩)
      |(go_at_call 201;refine I.out.mono ?_;rintro e ag ⟨⟨al,rfl⟩,a⟩;have d:=G (af.out.ext a);have z:=G (ad.out.trans a);clear a;have aj:=d.out.cell;have ai:=d.out.frozen)
      |(go_at_call 107;refine(X.out _).mono ?_;rintro e w' ⟨rfl,rfl⟩))
     have y:=(d.out.put4 (.int i64 0) (.string ⟨#[]⟩) (.int i64 0) (.int i64 0)).cell;exact bodyPost_ret (v:=dg (.error 2)) (by simp[results,results153,go_sem,dg,y]) rfl ⟨by rw[A.out],z.out.put4 (ah _) _ _ _ _⟩
    ·have an:((c.toNat:Int)==48)=false:=(eG c 48 J).trans (Qn.2 hC);by_cases hV:2147483647<v
     ·have A:=G (show jO (c::m)=.error 2 by rw[w.out,u,if_neg Qe,if_pos (.inr (.inr (R hV)))]);clear u;clear hC;clear w H F R V;go_enter func153,ntmps153
      go_wp2_with (first
       |(go_at_call 200;refine(ae.out _).mono ?_;rintro e w' ⟨rfl,rfl⟩)
       |(go_at_call 201;refine I.out.mono ?_;rintro e ag ⟨⟨al,rfl⟩,a⟩;have d:=G (af.out.ext a);have z:=G (ad.out.trans a);clear a;have aj:=d.out.cell;have ai:=d.out.frozen)
       |(go_at_call 107;refine(X.out _).mono ?_;rintro e w' ⟨rfl,rfl⟩))
      have y:=(d.out.put4 (.int i64 0) (.string ⟨#[]⟩) (.int i64 0) (.int i64 0)).cell;exact bodyPost_ret (v:=dg (.error 2)) (by simp[results,results153,go_sem,dg,y]) rfl ⟨by rw[A.out],z.out.put4 (ah _) _ _ _ _⟩
     ·have A:=G (show jO (c::m)=.ok ((3,[],v),n) by rw[w.out,u,if_neg Qe,if_neg (by rintro(o|o|o);exact hA o;exact(λo:1<n/\c=48=>hC o.2) o;exact V J o),F J]);clear u;clear hC;clear w H F R V;go_enter func153,ntmps153
      go_wp2_with (first
       |(go_at_call 200;refine(ae.out _).mono ?_;rintro e w' ⟨rfl,rfl⟩)
       |(go_at_call 201;refine I.out.mono ?_;rintro e ag ⟨⟨al,rfl⟩,a⟩;have d:=G (af.out.ext a);have z:=G (ad.out.trans a);clear a;have aj:=d.out.cell;have ai:=d.out.frozen)
       |(go_at_call 107;refine(X.out _).mono ?_;rintro e w' ⟨rfl,rfl⟩))
      have y:=(d.out.put4 (.int i64 3) (.string ⟨#[]⟩) (.int i64 v) (.int i64 0)).cell;exact bodyPost_ret (v:=dg (.ok ((3,[],v),n))) (by simp[results,results153,go_sem,dg,y];rfl) rfl ⟨by rw[A.out],z.out.put4 (ah _) _ _ _ _⟩
   ·have ao: ¬(1:Int)<n:=J
    by_cases hV:2147483647<v
    ·have A:=G (show jO (c::m)=.error 2 by rw[w.out,u,if_neg Qe,if_pos (.inr (.inr (R hV)))]);clear u;clear w H F R V;go_enter func153,ntmps153
     go_wp2_with (first
      |(go_at_call 200;refine(ae.out _).mono ?_;rintro e w' ⟨rfl,rfl⟩)
      |(go_at_call 201;refine I.out.mono ?_;rintro e ag ⟨⟨al,rfl⟩,a⟩;have d:=G (af.out.ext a);have z:=G (ad.out.trans a);clear a;have aj:=d.out.cell;have ai:=d.out.frozen)
      |(go_at_call 107;refine(X.out _).mono ?_;rintro e w' ⟨rfl,rfl⟩))
     have y:=(d.out.put4 (.int i64 0) (.string ⟨#[]⟩) (.int i64 0) (.int i64 0)).cell;exact bodyPost_ret (v:=dg (.error 2)) (by simp[results,results153,go_sem,dg,y]) rfl ⟨by rw[A.out],z.out.put4 (ah _) _ _ _ _⟩
    ·have A:=G (show jO (c::m)=.ok ((3,[],v),n) by rw[w.out,u,if_neg Qe,if_neg (by rintro(o|o|o);exact hA o;exact(λo:1<n/\c=48=>hB o.1) o;exact V J o),F J]);clear u;clear w H F R V;go_enter func153,ntmps153
     go_wp2_with (first
      |(go_at_call 200;refine(ae.out _).mono ?_;rintro e w' ⟨rfl,rfl⟩)
      |(go_at_call 201;refine I.out.mono ?_;rintro e ag ⟨⟨al,rfl⟩,a⟩;have d:=G (af.out.ext a);have z:=G (ad.out.trans a);clear a;have aj:=d.out.cell;have ai:=d.out.frozen)
      |(go_at_call 107;refine(X.out _).mono ?_;rintro e w' ⟨rfl,rfl⟩))
     have y:=(d.out.put4 (.int i64 3) (.string ⟨#[]⟩) (.int i64 v) (.int i64 0)).cell;exact bodyPost_ret (v:=dg (.ok ((3,[],v),n))) (by simp[results,results153,go_sem,dg,y];rfl) rfl ⟨by rw[A.out],z.out.put4 (ah _) _ _ _ _⟩
theorem jH (r:v6): ∃k s v n e,dg r=.tuple #[.agg #[.int i64 k,.string s,.int i64 v,.int i64 0],.int i64 n,.int i64 e]:=by
 cases r with
 |ok x=>exact⟨_,_,_,_,_,rfl⟩
 |error e=>exact⟨_,_,_,_,_,rfl⟩
theorem AJ (c:UInt8) (m:List UInt8):lT (c::m)=if mN c then lu (c::m)else if fT c then jO (c::m)else if c=39 then kg (c::m)else if c=34 then ky (c::m)else j_ (c::m):=rfl
theorem yW (c:UInt8) (m:List UInt8) (aj:(c::m).length<=100000) (y:World) (H:EZ y):Calls prog 96 #[.string (Z (c::m))] y λe w'=>e=.returned (dg (lT (c::m)))/\au y w':=by
 have al:(Z (c::m)).size=m.length+1:=by rw[aZ];rfl
 have ar:0<(Z (c::m)).size:=by rw[al];omega
 have ap:(Z (c::m))[0]=c:=rfl;have ao:m.length<=99999:=by simpa using aj
 have X:=G (nz c);have I:=G (pp c);have ad:=G (aa y (.cells #[.int i64 0,.string ⟨#[]⟩,.int i64 0,.int i64 0] 188));have ae:=G (aq y 188 #[.int i64 0,.string ⟨#[]⟩,.int i64 0,.int i64 0]);have z:=G (AJ c m)
 cases hL:mN c with
 |true=>
  rw[hL]at X;have V:=G (show lT (c::m)=lu (c::m) by rw[z.out,hL,if_pos rfl]);obtain⟨k,s,v,n,e,a⟩:=jH (lu (c::m));have w:=G (Ay (c::m) aj (y.alloc (.cells #[.int i64 0,.string ⟨#[]⟩,.int i64 0,.int i64 0] 188)));rw[a]at w;have R:=G a;clear hL z a H;go_enter func96,ntmps96
  go_wp2_with (first
   |(go_at_call 108;refine(X.out _).mono ?_;rintro u w' ⟨rfl,rfl⟩)
   |(go_at_call 152;refine(I.out _).mono ?_;rintro u w' ⟨rfl,rfl⟩)
   |(go_at_call 151;refine w.out.mono ?_;rintro u af ⟨rfl,d⟩;have o:=G (ae.out.ext d);have F:=G (ad.out.trans d);clear d;have ai:=o.out.cell;have ag:=o.out.frozen))
  have A:=(o.out.put4 (.int i64 k) (.string s) (.int i64 v) (.int i64 0)).cell;exact bodyPost_ret (v:=.tuple #[.agg #[.int i64 k,.string s,.int i64 v,.int i64 0],.int i64 n,.int i64 e]) (by simp[results,results96,go_sem,A]) rfl ⟨by rw[V.out,R.out],F.out.put4 (ah _) _ _ _ _⟩
 |false=>
  rw[hL]at X
  cases hD:fT c with
  |true=>
   rw[hD]at I;have V:=G (show lT (c::m)=jO (c::m) by rw[z.out,hL,if_neg Qe,hD,if_pos rfl]);obtain⟨k,s,v,n,e,a⟩:=jH (jO (c::m));have w:=G (xh c m hD aj (y.alloc (.cells #[.int i64 0,.string ⟨#[]⟩,.int i64 0,.int i64 0] 188)) (H.ext ad.out));rw[a]at w;have R:=G a;clear hL hD z a H;go_enter func96,ntmps96
   go_wp2_with (first
    |(go_at_call 108;refine(X.out _).mono ?_;rintro u w' ⟨rfl,rfl⟩)
    |(go_at_call 152;refine(I.out _).mono ?_;rintro u w' ⟨rfl,rfl⟩)
    |(go_at_call 153;refine w.out.mono ?_;rintro u af ⟨rfl,d⟩;have o:=G (ae.out.ext d);have F:=G (ad.out.trans d);clear d;have ai:=o.out.cell;have ag:=o.out.frozen))
   have A:=(o.out.put4 (.int i64 k) (.string s) (.int i64 v) (.int i64 0)).cell;exact bodyPost_ret (v:=.tuple #[.agg #[.int i64 k,.string s,.int i64 v,.int i64 0],.int i64 n,.int i64 e]) (by simp[results,results96,go_sem,A]) rfl ⟨by rw[V.out,R.out],F.out.put4 (ah _) _ _ _ _⟩
  |false=>
   rw[hD]at I;by_cases h39:c=39
   ·have V:=G (show lT (c::m)=kg (c::m) by rw[z.out,hL,if_neg Qe,hD,if_neg Qe,if_pos h39]);obtain⟨k,s,v,n,e,a⟩:=jH (kg (c::m));have w:=G (Dh c m J (y.alloc (.cells #[.int i64 0,.string ⟨#[]⟩,.int i64 0,.int i64 0] 188)));rw[a]at w;have R:=G a;have am:((c.toNat:Int)==39)=true:=by rw[h39];rfl
    clear hL hD z a H h39;go_enter func96,ntmps96
    go_wp2_with (first
     |(go_at_call 108;refine(X.out _).mono ?_;rintro u w' ⟨rfl,rfl⟩)
     |(go_at_call 152;refine(I.out _).mono ?_;rintro u w' ⟨rfl,rfl⟩)
     |(go_at_call 154;refine w.out.mono ?_;rintro u af ⟨rfl,d⟩;have o:=G (ae.out.ext d);have F:=G (ad.out.trans d);clear d;have ai:=o.out.cell;have ag:=o.out.frozen))
    have A:=(o.out.put4 (.int i64 k) (.string s) (.int i64 v) (.int i64 0)).cell;exact bodyPost_ret (v:=.tuple #[.agg #[.int i64 k,.string s,.int i64 v,.int i64 0],.int i64 n,.int i64 e]) (by simp[results,results96,go_sem,A]) rfl ⟨by rw[V.out,R.out],F.out.put4 (ah _) _ _ _ _⟩
   ·have am:((c.toNat:Int)==39)=false:=(eG c 39 J).trans (Qn.2 h39);by_cases h34:c=34
    ·have V:=G (show lT (c::m)=ky (c::m) by rw[z.out,hL,if_neg Qe,hD,if_neg Qe,if_neg h39,if_pos h34]);obtain⟨k,s,v,n,e,a⟩:=jH (ky (c::m));have w:=G (AM c m J (y.alloc (.cells #[.int i64 0,.string ⟨#[]⟩,.int i64 0,.int i64 0] 188)));rw[a]at w;have R:=G a;have an:((c.toNat:Int)==34)=true:=by rw[h34];rfl
     clear hL hD z a H h39 h34;go_enter func96,ntmps96
     go_wp2_with (first
      |(go_at_call 108;refine(X.out _).mono ?_;rintro u w' ⟨rfl,rfl⟩)
      |(go_at_call 152;refine(I.out _).mono ?_;rintro u w' ⟨rfl,rfl⟩)
      |(go_at_call 155;refine w.out.mono ?_;rintro u af ⟨rfl,d⟩;have o:=G (ae.out.ext d);have F:=G (ad.out.trans d);clear d;have ai:=o.out.cell;have ag:=o.out.frozen))
     have A:=(o.out.put4 (.int i64 k) (.string s) (.int i64 v) (.int i64 0)).cell;exact bodyPost_ret (v:=.tuple #[.agg #[.int i64 k,.string s,.int i64 v,.int i64 0],.int i64 n,.int i64 e]) (by simp[results,results96,go_sem,A]) rfl ⟨by rw[V.out,R.out],F.out.put4 (ah _) _ _ _ _⟩
    ·have V:=G (show lT (c::m)=j_ (c::m) by rw[z.out,hL,if_neg Qe,hD,if_neg Qe,if_neg h39,if_neg h34]);obtain⟨k,s,v,n,e,a⟩:=jH (j_ (c::m));have w:=G (B_ c m J (y.alloc (.cells #[.int i64 0,.string ⟨#[]⟩,.int i64 0,.int i64 0] 188)));rw[a]at w;have R:=G a;have an:((c.toNat:Int)==34)=false:=(eG c 34 J).trans (Qn.2 h34);clear hL hD z a H h39 h34;go_enter func96,ntmps96
     go_wp2_with (first
      |(go_at_call 108;refine(X.out _).mono ?_;rintro u w' ⟨rfl,rfl⟩)
      |(go_at_call 152;refine(I.out _).mono ?_;rintro u w' ⟨rfl,rfl⟩)
      |(go_at_call 156;refine w.out.mono ?_;rintro u af ⟨rfl,d⟩;have o:=G (ae.out.ext d);have F:=G (ad.out.trans d);clear d;have ai:=o.out.cell;have ag:=o.out.frozen))
     have A:=(o.out.put4 (.int i64 k) (.string s) (.int i64 v) (.int i64 0)).cell;exact bodyPost_ret (v:=.tuple #[.agg #[.int i64 k,.string s,.int i64 v,.int i64 0],.int i64 n,.int i64 e]) (by simp[results,results96,go_sem,A]) rfl ⟨by rw[V.out,R.out],F.out.put4 (ah _) _ _ _ _⟩
def gX (t:cB):List Value:=[.int i64 t.k,.string (Z t.t),.int i64 t.v,.int i64 t.f]
def lU (ts:List cB):List Value:=ts.flatMap gX
theorem yY (a b:List cB):lU (a++b)=lU a++lU b:=by simp[lU]
def jg (w:World) (base:Nat) (e:TypeId) (v:Value) (ts:List cB):Prop:=w.ownsRow base e 4 v ts.length (lU ts)
theorem jg.nil_ (a:World) (base:Nat) (e:TypeId):jg a base e (.slice none 0 0) []:=World.ownsRow_nil a base e 4
theorem jg.form {h:World} {base:Nat} {e:TypeId} {v:Value} {a:List cB} (u:jg h base e v a): ∃w d,v=.slice w a.length d:=by
 rcases u.2 with⟨rfl,o⟩|⟨g,d,cur,rfl,_⟩
 ·exact⟨none,0,by rw[o]⟩
 ·exact⟨_,_,rfl⟩
theorem jg.grown {a w':World} {base:Nat} {e:TypeId} {v:Value} {d:List cB} {row:Option Nat} (u:jg a base e v d) (o:a.grownBy w' row) (h:v.ownBlock=none\/v.ownBlock≠row):jg w' base e v d:=World.ownsRow.kept u o h
theorem jg.ext {a w':World} {base:Nat} {e:TypeId} {v:Value} {d:List cB} (o:jg a base e v d) (h:au a w'):jg w' base e v d:=o.grown (h.grownBy none) (by cases v.ownBlock<;>simp)
structure Hc (P:Program) (t e:TypeId):Prop where
 under:P.underlying t=some (.slice e)
 info:(P.info? e).map (λi=>(i.zero,i.size,i.bytes))=some (some (.agg #[.int i64 0,.string ⟨#[]⟩,.int i64 0,.int i64 0]),4,40)
theorem uJ {P:Program} {w:World} {t e:TypeId} (u:Hc P t e) (ty:TypeId) (base:Nat) (v:Value) (a:List cB) (G:jg w base e v a) (g:Nat) (x:cB)
  (V:w.heap[g]? =some (.cells #[.int i64 x.k,.string (Z x.t),.int i64 x.v,.int i64 x.f] e (0,0))) (ae:a.length<=1073741824) (X:base<=w.heap.size):
  ∃d cap' w',(Builtin.append_ #[t,t] ty #[v,.slice (some ⟨g,0,none⟩) 1 1]).run P w=.ok (.slice d (a.length+1) cap') w'/\jg w' base e (.slice d (a.length+1) cap') (a++[x])/\w.grownBy w' v.ownBlock/\
   (Value.ownBlock (.slice d (a.length+1) cap')=v.ownBlock\/Value.ownBlock (.slice d (a.length+1) cap')=some w.heap.size):=by
 obtain⟨i,hi,F,A,z⟩:=info_parts u.info;obtain⟨v',w',o,I,aa,_,y⟩:=run_append_own_at (P:=P) w base t ty e i (.agg #[.int i64 0,.string ⟨#[]⟩,.int i64 0,.int i64 0]) 4 40 u.under hi F A z rfl Qd v a.length (lU a) G ⟨g,0,none⟩ 1 1 (gX x) rfl
  (λj ad R=>by
   rw[Addr.add_lit,aE,cell_of_row w g j _ e (0,0) V]
   simpa[gX]using R) (by simp[gX,Value.oneCell']) Qh J X
 have h:jg w' base e v' (a++[x]):=by
  unfold jg;rw[H,yY];simpa[lU]using I
 obtain⟨d,cap',rfl⟩:=h.form;rw[H]at h o y;exact⟨d,cap',w',o,h,aa,y⟩
theorem qk {P:Program} {a:World} {ops:Array Oper} {rest:List Oper} {u:Oper} {w:Act} {Q:Exit->Act->World->Prop} {t e:TypeId} (I:Hc P t e) (R:u.guard=none) (s x:Operand)
  (G:u.op=.call {callee:=.builtin .append,args:= #[s,x],argTypes:= #[t,t]}) (base:Nat) (v:Value) (d:List cB) (z:w.eval s=v) (F:jg a base e v d)
  (g:Nat) (h:cB) (y:w.eval x=.slice (some ⟨g,0,none⟩) 1 1) (V:a.heap[g]? =some (.cells #[.int i64 h.k,.string (Z h.t),.int i64 h.v,.int i64 h.f] e (0,0))) (aa:d.length<=1073741824) (X:base<=a.heap.size)
  (ag: ∀o cap' w',jg w' base e (.slice o (d.length+1) cap') (d++[h])->a.grownBy w' v.ownBlock->
   (Value.ownBlock (.slice o (d.length+1) cap')=v.ownBlock\/Value.ownBlock (.slice o (d.length+1) cap')=some a.heap.size)->wpList P ops Q rest (w.put u.dst (.slice o (d.length+1) cap')) w'):
  wpList P ops Q (u::rest) w a:=by
 obtain⟨o,cap',w',A,af,ae,ad⟩:=uJ (P:=P) (w:=a) I u.type base v d F g h V aa X;refine wpList_plain R λK H=> ?_;unfold Oper.wp execOp;simp only[G,resolve,invoke,builtin,Sem.run_bind,Sem.run_pure,Result.andThen_ok,dx,bL,dz,z,y,A];exact H _ _ (ag o cap' w' af ae ad)
theorem tt:Hc prog 116 188:=⟨underlying116,by kernel_rfl⟩
theorem vj: ∀(f:Nat) (m:List UInt8) (t:List UInt8) (n:Nat),p5 f m=some (t,n)->1<=n/\n<=m.length
 |0,m,t,n,h=>by cases h
 |f+1,[],t,n,h=>by cases h
 |f+1,c::r,t,n,h=>by
  simp only[p5]at h;split at h
  ·cases h;exact⟨ah _,by simp⟩
  ·split at h
   ·cases h
   ·obtain⟨⟨a,d⟩,u,o⟩:=Option.map_eq_some_iff.1 h
    cases o;have:=vj f _ a d u;have w:=md (c::r);rw[bK]at this;omega
theorem pk {l:List UInt8} {c:UInt8} (a:l.head? =some c):1<=l.length:=by cases l<;>simp at a⊢
theorem qp {c:UInt8} {r:List UInt8} {x:Int×List UInt8×Int} {n:Nat} (a:lT (c::r)=.ok (x,n)):1<=n/\n<=(c::r).length:=by
 have o:mN c=true->1<=cN gq (c::r):=λa=>by simp[cN,gq,a]
 have A:fT c=true->1<=cN fT (c::r):=λa=>by simp[cN,a]
 have h:=jK gq (c::r);have z:=jK fT (c::r);simp only[lT]at a;split at a
 ·rename_i u;unfold lu at a;split at a
  ·cases a;exact⟨o u,h⟩
  ·split at a
   ·cases a
   ·cases a;exact⟨o u,h⟩
 ·split at a
  ·rename_i F;unfold jO at a;split at a
   ·cases a
   ·split at a
    ·cases a
    ·cases a;exact⟨A F,z⟩
  ·split at a
   ·unfold kg at a;split at a
    ·cases a
    ·rename_i d
     cases a;have G:((c::r).drop ((cY ((c::r).drop 1)).2+1)).head? =some 39:=by
      refine Classical.byContradiction λw=>d (.inr (.inr w))
     have:=pk G;rw[bK]at this;omega
   ·split at a
    ·unfold ky at a;split at a
     ·cases a
     ·rename_i t V y;split at a
      ·cases a
      ·cases a;have:=vj _ _ _ _ y;rw[bK]at this;omega
    ·unfold j_ at a;split at a
     ·rename_i d
      cases a;have: ∀t∈two,t.length=2:=Qd
      have R:((c::r).take 2).length=2:=this _ (List.contains_iff_mem.1 d);rw[bG]at R;omega
     ·split at a
      ·cases a;exact⟨ah _,by simp⟩
      ·cases a
theorem AK {c:UInt8} {r:List UInt8} {e:Int} (a:lT (c::r)=.error e):e=3\/e=2\/e=6:=by
 simp only[lT]at a;unfold lu jO kg ky j_ at a;repeat' split at a
 all_goals cases a
 all_goals first|exact .inl rfl|exact .inr (.inl rfl)|exact .inr (.inr rfl)
def mY (ts:List cB):Except (Nat×Int) (List cB)->Except (Nat×Int) (List cB)
 | .error e=> .error e
 | .ok us=> .ok (ts++us)
theorem wq (l:List UInt8):pZ l=mY [] (jb (l.length+1) (l.drop 0) 0):=by
 unfold pZ;rw[aw]
 cases jb (l.length+1) l 0<;>simp[mY]
theorem AH {l:List UInt8} {f p:Nat} {a:List cB} (h:pZ l=mY a (jb (f+1) (l.drop p) p)) (d:l.length<=p+dv false (l.drop p)):pZ l=.ok a:=by
 rw[h];have:(l.drop p).drop (dv false (l.drop p))=[]:=by
  rw[eh];exact aK d
 simp only[jb,this,mY,fd]
theorem AG {l:List UInt8} {f p q:Nat} {d:List cB} {c:UInt8} {r:List UInt8} {e:Int} (u:pZ l=mY d (jb (f+1) (l.drop p) p)) (a:q=p+dv false (l.drop p)) (o:l.drop q=c::r) (h:lT (c::r)=.error e):pZ l=.error (q,e):=by
 rw[u];have:(l.drop p).drop (dv false (l.drop p))=c::r:=by
  rw[eh,<-a,o]
 simp only[jb,this,h,mY,a]
theorem yU {l:List UInt8} {f p q:Nat} {a:List cB} {c:UInt8} {r:List UInt8} {k:Int} {t:List UInt8} {v:Int} {n:Nat} (y:pZ l=mY a (jb (f+1) (l.drop p) p)) (d:q=p+dv false (l.drop p)) (h:l.drop q=c::r)
  (o:lT (c::r)=.ok ((k,t,v),n)):pZ l=mY (a++[⟨k,t,v,(q:Nat)⟩]) (jb f (l.drop (q+n)) (q+n)):=by
 rw[y];have w:(l.drop p).drop (dv false (l.drop p))=c::r:=by
  rw[eh,<-d,h]
 have u:l.drop (q+n)=(c::r).drop n:=by rw[<-h,eh]
 rw[u];simp only[jb,w,o,<-d]
 cases jb f ((c::r).drop n) (q+n)<;>simp[mY]
def yF (ty:TypeId) (base:Nat) (r:List cB×Int×Int) (e:Ending) (w':World):Prop:=
 ∃A cap,e=.returned (.tuple #[.slice A r.1.length cap,.int i64 r.2.1,.int i64 r.2.2])/\jg w' base ty (.slice A r.1.length cap) r.1
theorem rR (l:List UInt8) (a:4000<l.length):ja l=([],4000,6):=by unfold ja;rw[if_pos a]
theorem AI (l:List UInt8) (a:List cB) (h: ¬4000<l.length) (d:pZ l=.ok a):ja l=(a,0,0):=by unfold ja;rw[if_neg h,d]
theorem yV (l:List UInt8) (p:Nat) (e:Int) (d: ¬4000<l.length) (a:pZ l=.error (p,e)):ja l=([],(p:Int),e):=by unfold ja;rw[if_neg d,a]
theorem DO (a:World) (e:TypeId) (x:cB):((a.alloc (.cells #[.int i64 x.k,.string (Z x.t),.int i64 x.v,.int i64 x.f] e)).alloc (.cells #[.int i64 x.k,.string (Z x.t),.int i64 x.v,.int i64 x.f] e)).heap[a.heap.size+1]? =some (.cells #[.int i64 x.k,.string (Z x.t),.int i64 x.v,.int i64 x.f] e (0,0)):=by
 have:=heap_alloc_new (a.alloc (.cells #[.int i64 x.k,.string (Z x.t),.int i64 x.v,.int i64 x.f] e)) (.cells #[.int i64 x.k,.string (Z x.t),.int i64 x.v,.int i64 x.f] e);rwa [World.size_alloc]at this
theorem wu (l:List UInt8) (a3:l.length<=100000) (a:World) (ag:EZ a):Calls prog 46 #[.string (Z l)] a λe w'=>yF 188 a.heap.size (ja l) e w'/\au a w':=by
 have aj:(Z l).size=l.length:=aZ l;have ao:=G ag;clear ag;have aK:=G (rR l);have aH:=G (AI l);have aJ:=G (yV l);by_cases hbig:4000<l.length
 ·have aE:(4000:Int)<l.length:=J
  go_enter func46,ntmps46;go_wp2_with fail;exact bodyPost_ret (v:=.tuple #[.slice none 0 0,.int i64 4000,.int i64 6]) (by simp[results,results46,go_sem]) rfl ⟨by rw[aK.out hbig];exact⟨none,0,rfl,jg.nil_ _ _ _⟩,aI _⟩
 ·have aE: ¬(4000:Int)<l.length:=J
  go_enter func46,ntmps46;go_wp2_with fail
  go_loopw [2,3] (λav I wr=> ∃(B:Option Addr) (w:Nat) (d:List cB) (p f:Nat),av=.slice B d.length w/\jg wr a.heap.size 188 (.slice B d.length w) d/\I=.int i64 (p:Int)/\p<=l.length/\d.length<=p/\l.length+1<=f+p/\
   Hid (pZ l=mY d (jb f (l.drop p) p))/\au a wr) (λ_ I _=>l.length+1-(intOf I).toNat)
  case atStart=>exact⟨none,0,[],0,l.length+1,rfl,jg.nil_ _ _ _,rfl,aD _,ah _,by omega,G (wq l),aI _⟩
  case round=>
   obtain⟨B,w,d,p,f,rfl,al,rfl,ay,aR,a4,A,ai⟩:=hrel;obtain⟨f,rfl⟩: ∃g,f=g+1:=⟨f-1,by omega⟩
   have aq:=G al;have V:=G ai;clear al ai;have aW:p<=(Z l).size:=by rw[aj];exact ay
   have a5:(Z l).extract p l.length=Z (l.drop p):=by
    have:=fN l p l.length;rw[bQ (ah _)]at this;exact this
   have af:=G (λa=>Ag (l.drop p) (by rw[bK];omega) a);have aS:p+dv false (l.drop p)<=l.length:=by have:=lZ false (l.drop p);rw[bK]at this;omega
   obtain⟨q,R⟩: ∃q,q=p+dv false (l.drop p):=⟨_,rfl⟩
   have aV:(p:Int)+(dv false (l.drop p):Int)=(q:Int):=J
   by_cases hend:l.length<=q
   ·have X:=G (AH A.out J);have aU:q=l.length:=J
    have aB:(l.length:Int)<=q:=J
    generalize dv false (l.drop p)=s at*;clear R A;go_wp2_with (go_at_call 95;refine(af.out _).mono ?_;rintro e w' ⟨rfl,rfl⟩);exact bodyPost_ret (v:=.tuple #[.slice B d.length w,.int i64 0,.int i64 0]) (by simp[results,results46,go_sem]) rfl ⟨by rw[aH.out _ hbig X.out];exact⟨B,w,rfl,aq.out⟩,V.out⟩
   ·have aB: ¬(l.length:Int)<=q:=J
    have aT:q<=(Z l).size:=by rw[aj];omega
    have aA:(Z l).extract q l.length=Z (l.drop q):=by
     have:=fN l q l.length;rw[bQ (ah _)]at this;exact this
    obtain⟨c,r,o⟩: ∃c r,l.drop q=c::r:=by
     cases ae:l.drop q with
     |nil=>have:=congrArg List.length ae;rw[bK]at this;simp at this;omega
     |cons c r=>exact⟨c,r,rfl⟩
    have a2:(c::r).length=l.length-q:=by rw[<-o,bK]
    rw[o]at aA;have z:=G (λa ae=>yW c r J a ae)
    cases ht:lT (c::r)with
    |error e=>
     have X:=G (AG A.out R o ht);have aC:e=3\/e=2\/e=6:=AK ht;rw[ht]at z;have F:dg (.error e)=.tuple #[.agg #[.int i64 0,.string ⟨#[]⟩,.int i64 0,.int i64 0],.int i64 0,.int i64 e]:=rfl;rw[F]at z;have az: ¬e=0:=J
     have aX:(e==0)=false:=by simp[az]
     generalize dv false (l.drop p)=s at*;clear R A ht o F aC
     go_wp2_with (first
      |(go_at_call 95;refine(af.out _).mono ?_;rintro e w' ⟨rfl,rfl⟩)
      |(go_at_call 96;refine(z.out _ (ao.out.ext V.out)).mono ?_;rintro aF aa ⟨rfl,u⟩;have aO:=G (V.out.trans u);clear u))
     exact bodyPost_ret (v:=.tuple #[.slice none 0 0,.int i64 q,.int i64 e]) (by simp[results,results46,go_sem]) rfl ⟨by rw[aJ.out _ _ hbig X.out];exact⟨none,0,rfl,jg.nil_ _ _ _⟩,aO.out.alloc' _⟩
    |ok y=>
     obtain⟨⟨k,t,v⟩,n⟩:=y;have X:=G (yU A.out R o ht);obtain⟨a1,aY⟩:=qp ht;rw[ht]at z;have F:dg (.ok ((k,t,v),n))=.tuple #[.agg #[.int i64 k,.string (Z t),.int i64 v,.int i64 0],.int i64 (n:Int),.int i64 0]:=rfl;rw[F]at z;generalize dv false (l.drop p)=s at*;clear R A ht o F
     go_wp2_with (first
      |(go_at_call 95;refine(af.out _).mono ?_;rintro e w' ⟨rfl,rfl⟩)
      |(go_at_call 96;refine(z.out _ (ao.out.ext V.out)).mono ?_;rintro aF aa ⟨rfl,u⟩;have ar:=G (V.out.trans ((u.alloc' (.cells #[.int i64 k,.string (Z t),.int i64 v,.int i64 (q:Int)] 188)).alloc' (.cells #[.int i64 k,.string (Z t),.int i64 v,.int i64 (q:Int)] 188)));have ap:=G (aq.out.ext ((u.alloc' (.cells #[.int i64 k,.string (Z t),.int i64 v,.int i64 (q:Int)] 188)).alloc' (.cells #[.int i64 k,.string (Z t),.int i64 v,.int i64 (q:Int)] 188)));have aN:=G (DO aa 188 ⟨k,t,v,(q:Int)⟩);clear u)
      |(at_builtin;refine qk tt rfl _ _ rfl a.heap.size (.slice B d.length w) d rfl ap.out (aa.heap.size+1) ⟨k,t,v,(q:Int)⟩ rfl aN.out J ar.out.size ?_;intro aP aG aQ am an _;have aL:=G am;have aM:=G an;clear am an))
     go_roundw
     case rel=>
      have ax:=λk ad=>(World.ownsRow.lt ap.out k ad).1;have aw:=ar.out.grown aM.out (λk ad=>by have:=ax k ad;omega);refine⟨aP,aG,d++[⟨k,t,v,(q:Int)⟩],q+n,f,by rw[H];rfl,?_,by go_num,by omega,by rw[H];simp;omega,by omega,X,aw⟩;rw[H];exact aL.out
     case measure=>simp[intOf];omega
theorem eH (a b:List UInt8):Z a++Z b=Z (a++b):=by
 apply mT;simp[Z]
theorem au.of_eq_alloc {a w':World} {x:Obj} (d:a.alloc x=w'):au a w':=by
 rw[<-d];exact aa _ _
end
end Go.Proofs.YtoedmpgicdekmaaGreatDoor
