/- Parts of the proof. -/
import Derived.Test.YtoedmpgicdekmaaGreatDoorCl00
import Derived.Test.YtoedmpgicdekmaaGreatDoorCl02
import Derived.Test.YtoedmpgicdekmaaGreatDoorCl03
set_option maxRecDepth 100000
set_option maxHeartbeats 8000000
set_option linter.unusedVariables false
set_option linter.unusedSimpArgs false
set_option linter.unusedSectionVars false
namespace Go.Proofs.YtoedmpgicdekmaaGreatDoor
open Go.Proofs.Tryz
section
open Go.RowKit
theorem jq (l:List UInt8):(ak l).data.toList=l:=by simp[ak]
theorem pO (c:UInt8): ∀l:List UInt8,(Lib.indexByte l c= -1/\l.contains c=false)\/(0<=Lib.indexByte l c/\l.contains c=true)
 | []=> .inl ⟨rfl,rfl⟩
 |b::l=>by
  simp only[Lib.indexByte];by_cases h:b=c
  ·subst h;refine .inr ⟨by simp,by simp⟩
  ·have u:(b==c)=false:=Qn.2 h;have d:(c==b)=false:=Qn.2 λe=>h e.symm;rw[u];rcases pO c l with⟨o,a⟩|⟨o,a⟩
   ·refine .inl ⟨by simp[o],?_⟩;rw[gJ,d,a];rfl
   ·refine .inr ⟨?_,?_⟩
    ·have:(Lib.indexByte l c== -1)=false:=by rw[Qn];omega
     simp only[aQ,if_false,this];omega
    ·rw[gJ,d,a];rfl
theorem uE: ∀l:List UInt8,Lib.indexByte l 10=if f7 l<l.length then(f7 l:Int)else-1
 | []=>rfl
 |b::l=>by
  by_cases h:b=10
  ·subst h;rfl
  ·have d:(b==10)=false:=Qn.2 h;have o:(b !=10)=true:=by simp[h]
   have a:=uE l;have e:f7 (b::l)=f7 l+1:=by simp[f7,cJ,h]
   rw[e];simp only[Lib.indexByte];rw[d,a,if_neg Qe];by_cases hl:f7 l<l.length
   ·rw[if_pos hl,if_neg Qe,if_pos (by rw[ag];omega)];rfl
   ·rw[if_neg hl,if_pos (show((-1:Int)== -1)=true from rfl),if_neg (by rw[ag];omega)]
theorem zI (c:UInt8):E3 c=([32,9,10,13]:List UInt8).contains c:=by
 have: ∀n:Fin 256,E3 (UInt8.ofNat n.val)=([32,9,10,13]:List UInt8).contains (UInt8.ofNat n.val):=Qk
 have a:=this ⟨c.toNat,c.toNat_lt⟩;rwa [jI]at a
theorem oD (l:List UInt8) (c:UInt8) (a:World):Calls prog 149 #[.string (ak l), .int .u8 (c.toNat:Int)] a λe w'=>e= .returned (.int .i64 (Lib.indexByte l c))/\a=w':=by
 refine(Tryz.strings_IndexByte (ak l) (c.toNat:Int) a).mono ?_;rintro e w' ⟨rfl,rfl⟩;rw[jq];have:(c.toNat:Int).toNat.toUInt8=c:=by
  rw[bW];exact jI
 rw[this];exact⟨rfl,rfl⟩
theorem qc (l p:List UInt8) (a:World):Calls prog 150 #[.string (ak l), .string (ak p)] a λe w'=>e= .returned (.bool (p.isPrefixOf l))/\a=w':=by
 refine(Tryz.strings_HasPrefix (ak l) (ak p) a).mono ?_;rintro e w' ⟨rfl,rfl⟩;rw[jq,jq];exact⟨rfl,rfl⟩
theorem sr (l:List UInt8):(([47,47]:List UInt8).isPrefixOf l=true/\ ∃r,l=47::47::r)\/(([47,47]:List UInt8).isPrefixOf l=false/\ ∀c r,l=c::r-> ¬(c=47/\r.head? =some 47)):=by
 match l with
 | []=>exact .inr ⟨rfl,λc r a=>by cases a⟩
 | [c]=>exact .inr ⟨by simp[List.isPrefixOf],λc' r a=>by injection a with o h;subst h;simp⟩
 |c::d::r=>
  by_cases a:c=47/\d=47
  ·obtain⟨rfl,rfl⟩:=a;exact .inl ⟨by simp[List.isPrefixOf],r,rfl⟩
  ·refine .inr ⟨?_,λc' w u=>by injection u with o h;subst o h;simpa using a⟩;simp only[List.isPrefixOf,iv];rw[Bool.and_eq_false_iff];by_cases hc:c=47
   ·right;exact Qn.2 λe=>a ⟨hc,e.symm⟩
   ·left;exact Qn.2 λe=>hc e.symm
theorem yo {l:List UInt8} {j:Nat} (d:j<l.length) (a:E3 l[j]=true):dq false (l.drop j)=dq false (l.drop (j+1))+1:=by
 rw[ap d];simp only[dq];rw[if_pos a]
theorem yn {l:List UInt8} {j:Nat} (d:j<l.length) (h:E3 l[j]=false) (a: ∀c r,l.drop j=c::r-> ¬(c=47/\r.head? =some 47)):dq false (l.drop j)=0:=by
 have a:=a l[j] (l.drop (j+1)) (ap d);rw[ap d];simp only[dq];rw[h,if_neg Qe,if_neg a]
theorem zq (l:List UInt8) (an:l.length<=100000) (a:World):Calls prog 95 #[.string (ak l)] a λe w'=>e= .returned (.int .i64 (dq false l))/\a=w':=by
 have al:=a7 l;go_enter func95,ntmps95;go_wp2_with fail
 go_loop [3] (λK=> ∃j:Nat,K= .int .i64 j/\j<=l.length/\Hid (dq false l=j+dq false (l.drop j))) (λK=>l.length-(intOf K).toNat)
 case atStart=>exact⟨0,rfl,aD _,G Qe⟩
 case round=>
  obtain⟨j,rfl,ao,z⟩:=hrel;by_cases hlt:j<l.length
  ·have ae:j<(ak l).size:=by rw[a7];exact hlt
   have ap:=nc l j ae;have ac:(j:Int)<l.length:=Qa
   have X:=fy l j l.length;rw[bY]at X;have ai:=G (λM=>yo (l:=l) hlt M);have aj:=G (λM aa=>yn (l:=l) hlt M aa);generalize l[j]'hlt=c at*;have I:=G (show Calls prog 149 #[.string ⟨#[32,9,10,13]⟩, .int .u8 (c.toNat:Int)] a λe w'=>e= .returned (.int .i64 (Lib.indexByte [32,9,10,13] c))/\a=w' from oD [32,9,10,13] c a)
   cases hw:E3 c with
   |true=>
    have af:0<=Lib.indexByte [32,9,10,13] c:=by
     rcases pO c [32,9,10,13]with⟨H,u⟩|⟨H,u⟩
     ·rw[<-zI,hw]at u;cases u
     ·exact H
    have d:=G (show dq false l=((j+1:Nat))+dq false (l.drop (j+1)) by rw[z.out,ai.out hw];omega);generalize Lib.indexByte [32,9,10,13] c=Z at*;clear hw X;go_wp2_with (go_at_call 149;refine I.out.mono ?_;rintro e w' ⟨rfl,rfl⟩)
    go_round
    case rel=>exact⟨j+1,by go_num,by omega,d⟩
    case measure=>simp[intOf];omega
   |false=>
    have af: ¬0<=Lib.indexByte [32,9,10,13] c:=by
     rcases pO c [32,9,10,13]with⟨H,u⟩|⟨H,u⟩
     ·omega
     ·rw[<-zI,hw]at u;cases u
    generalize Lib.indexByte [32,9,10,13] c=Z at*;have A:=G (show Calls prog 150 #[.string (ak (l.drop j)), .string ⟨#[47,47]⟩] a λe w'=>e= .returned (.bool (([47,47]:List UInt8).isPrefixOf (l.drop j)))/\a=w' from qc (l.drop j) [47,47] a);rcases sr (l.drop j)with⟨w,o⟩|⟨w,o⟩
    ·have F:=q_ o;have y:=uE (l.drop j);have J:=G (show Calls prog 149 #[.string (ak (l.drop j)), .int .u8 10] a λe w'=>e= .returned (.int .i64 (Lib.indexByte (l.drop j) 10))/\a=w' from oD (l.drop j) 10 a);rw[w]at A;have R:f7 (l.drop j)<=(l.drop j).length:=jr _ _;have V:(l.drop j).length=l.length-j:=bH;by_cases hn:f7 (l.drop j)<(l.drop j).length
     ·rw[if_pos hn]at y;rw[y]at J;have d:=G (show dq false l=((j+f7 (l.drop j):Nat))+dq false (l.drop (j+f7 (l.drop j))) by rw[z.out,F,d6];omega);have am:1<=f7 (l.drop j):=by
       obtain⟨r,ab⟩:=o;rw[ab];simp[f7,cJ]
      have ad:j+f7 (l.drop j)<=l.length:=Qa
      generalize f7 (l.drop j)=n at*;clear hw w o F y hn R V
      go_wp2_with (first
       |(go_at_call 149;with_reducible (refine I.out.mono ?_);rintro e w' ⟨rfl,rfl⟩)
       |(go_at_call 150;refine A.out.mono ?_;rintro e w' ⟨rfl,rfl⟩)
       |(go_at_call 149;refine J.out.mono ?_;rintro e w' ⟨rfl,rfl⟩))
      go_round
      case rel=>exact⟨j+n,by go_num,ad,d⟩
      case measure=>simp[intOf];omega
     ·rw[if_neg hn]at y;rw[y]at J;have ah:j+f7 (l.drop j)=l.length:=Qa
      have d:=G (show dq false l=l.length by
       have ag:l.drop (j+f7 (l.drop j))=[]:=aK Qa;rw[z.out,F,d6,ag];show j+(f7 (l.drop j)+0)=l.length
       omega)
      clear ah;clear hw w o F y hn R V
      go_wp2_with (first
       |(go_at_call 149;with_reducible (refine I.out.mono ?_);rintro e w' ⟨rfl,rfl⟩)
       |(go_at_call 150;refine A.out.mono ?_;rintro e w' ⟨rfl,rfl⟩)
       |(go_at_call 149;refine J.out.mono ?_;rintro e w' ⟨rfl,rfl⟩))
      go_ret;exact⟨nt (by rw[d.out]),rfl⟩
    ·rw[w]at A;have d:=G (show dq false l=j by rw[z.out,aj.out hw o];omega);clear hw w o
     go_wp2_with (first
      |(go_at_call 149;with_reducible (refine I.out.mono ?_);rintro e w' ⟨rfl,rfl⟩)
      |(go_at_call 150;refine A.out.mono ?_;rintro e w' ⟨rfl,rfl⟩))
     go_ret;exact⟨nt (by rw[d.out]),rfl⟩
  ·have d:=G (show dq false l=j by rw[z.out,aK Qa];rfl);have ac: ¬(j:Int)<l.length:=Qa
   go_wp2_with fail;go_ret;exact⟨nt (by rw[d.out]),rfl⟩
def de:vq->Value
 | .ok x=> .tuple #[.agg #[.int .i64 x.1.1, .string (ak x.1.2.1), .int .i64 x.1.2.2, .int .i64 0], .int .i64 (x.2:Int), .int .i64 0]
 | .error e=> .tuple #[.agg #[.int .i64 0, .string ⟨#[]⟩, .int .i64 0, .int .i64 0], .int .i64 0, .int .i64 e]
theorem aM.put4 {h:World} {g:Nat} {t:TypeId} {y w u o:Value} (z:aM h g t #[y,w,u,o]) (d b c a:Value):aM ((((h.setCell ⟨g,0,none⟩ d).setCell ⟨g,1,none⟩ b).setCell ⟨g,2,none⟩ c).setCell ⟨g,3,none⟩ a) g t #[d,b,c,a]:=by
 have:=(((z.set 0 d).set 1 b).set 2 c).set 3 a;simpa using this
theorem au.put4 {w0 d:World} {g:Nat} (u:au w0 d) (a:w0.heap.size<=g) (o b c h:Value):au w0 ((((d.setCell ⟨g,0,none⟩ o).setCell ⟨g,1,none⟩ b).setCell ⟨g,2,none⟩ c).setCell ⟨g,3,none⟩ h):=(((u.set a o).set a b).set a c).set a h
theorem zK (l:List UInt8) (A:l.length<=100000) (a:World):Calls prog 151 #[.string (ak l)] a λe w'=>e= .returned (de (kS l))/\au a w':=by
 have I:=a7 l;have J:=jr fV l;have F:=fy l 0 (cJ fV l);simp only[aw]at F;have w:=G (λa=>t8 fV 107 nA (.inl rfl) l A a);have d:=G (show kS l=if yO (l.take (cJ fV l))then .ok ((2,l.take (cJ fV l),0),cJ fV l)else if 14<cJ fV l then .error 6 else .ok ((1,l.take (cJ fV l),0),cJ fV l)from rfl);have u:=G (λa=>o_ (l.take (cJ fV l)) a);generalize z:cJ fV l=n at*;generalize y:l.take n=x at*;clear z y
 cases hk:yO x with
 |true=>
  have o:=G (show kS l= .ok ((2,x,0),n) by rw[d.out,hk,if_pos rfl]);rw[hk]at u;clear hk d;go_enter func151,ntmps151
  go_wp2_with (first
   |(go_at_call 200;refine(w.out _).mono ?_;rintro e w' ⟨rfl,rfl⟩)
   |(go_at_call 109;refine(u.out _).mono ?_;rintro e w' ⟨rfl,rfl⟩))
  exact bodyPost_ret (v:=de (.ok ((2,x,0),n))) (by simp[results,results151,go_sem,de]) rfl ⟨by rw[o.out],(aa a _).alloc' _⟩
 |false=>
  rw[hk]at u;by_cases h14:14<n
  ·have o:=G (show kS l= .error 6 by rw[d.out,hk,if_neg Qe,if_pos h14]);have H:(14:Int)<n:=Qa
   clear hk d;go_enter func151,ntmps151
   go_wp2_with (first
    |(go_at_call 200;refine(w.out _).mono ?_;rintro e w' ⟨rfl,rfl⟩)
    |(go_at_call 109;refine(u.out _).mono ?_;rintro e w' ⟨rfl,rfl⟩))
   exact bodyPost_ret (v:=de (.error 6)) (by simp[results,results151,go_sem,de]) rfl ⟨by rw[o.out],(aa a _).alloc' _⟩
  ·have o:=G (show kS l= .ok ((1,x,0),n) by rw[d.out,hk,if_neg Qe,if_neg h14]);have H: ¬(14:Int)<n:=Qa
   clear hk d;go_enter func151,ntmps151
   go_wp2_with (first
    |(go_at_call 200;refine(w.out _).mono ?_;rintro e w' ⟨rfl,rfl⟩)
    |(go_at_call 109;refine(u.out _).mono ?_;rintro e w' ⟨rfl,rfl⟩))
   exact bodyPost_ret (v:=de (.ok ((1,x,0),n))) (by simp[results,results151,go_sem,de]) rfl ⟨by rw[o.out],(aa a _).alloc' _⟩
theorem oF (l:List UInt8) (j:Nat) (a:j<l.length):(l.drop j).head? =some l[j]:=by rw[List.head?_drop,aI a]
theorem qr (l:List UInt8) (j:Nat) (a:l.length<=j):(l.drop j).head? =none:=by rw[List.head?_drop,k_ a]
theorem zm (c:UInt8) (m:List UInt8):jT (c::m)=if(cW m).2=0\/m.head? =some 39\/(m.drop (cW m).2).head? ≠some 39 then .error 3 else .ok ((3,[],((cW m).1.toNat:Int)),(cW m).2+2):=rfl
theorem Ce (c:UInt8) (m:List UInt8) (ac:m.length<=100000) (o:World):Calls prog 154 #[.string (ak (c::m))] o λe w'=>e= .returned (de (jT (c::m)))/\au o w':=by
 have K:(ak (c::m)).size=m.length+1:=by rw[a7];rfl
 have aw:(ak (c::m)).extract 1 (m.length+1)=ak m:=by
  have:=fy (c::m) 1 (m.length+1);rw[bO Qe]at this;exact this
 have A:=G (λo=>uK m o ac);obtain⟨ar,ap⟩:=lP m;have u:=G (zm c m);generalize X:(cW m).1=v at*;generalize R:(cW m).2=n at*;have ay:=G R;have aj:=v.toNat_lt;have ai:(v.toNat:Int)<256:=Qa
 clear X R;by_cases hn0:n=0
 ·have y:=G (show jT (c::m)= .error 3 by rw[u.out,if_pos (.inl hn0)]);subst hn0;clear u;go_enter func154,ntmps154;go_wp2_with (go_at_call 202;refine(A.out _).mono ?_;rintro e F ⟨rfl,a⟩;have d:=G ((aq o 188 #[.int .i64 0, .string ⟨#[]⟩, .int .i64 0, .int .i64 0]).ext a);have z:=G ((aa o _).trans a);clear a;have J:=d.out.cell;have I:=d.out.frozen);have w:=(d.out.put4 (.int .i64 0) (.string ⟨#[]⟩) (.int .i64 0) (.int .i64 0)).cell;exact bodyPost_ret (v:=de (.error 3)) (by simp[results,results154,go_sem,de,w]) rfl ⟨by rw[y.out],z.out.put4 (ah _) _ _ _ _⟩
 ·have V:0<m.length:=Qa
  have am:1<(ak (c::m)).size:=by rw[K];omega
  have af:(ak (c::m))[1]=m[0]:=rfl;have ao:((n:Int)==0)=false:=by simp[hn0]
  by_cases hq:m[0]=39
  ·have y:=G (show jT (c::m)= .error 3 by rw[u.out,if_pos (.inr (.inl (by rw[ky,aI V,hq])))]);rw[hq]at af;clear u hn0 hq;go_enter func154,ntmps154;go_wp2_with (go_at_call 202;refine(A.out _).mono ?_;rintro e F ⟨rfl,a⟩;have d:=G ((aq o 188 #[.int .i64 0, .string ⟨#[]⟩, .int .i64 0, .int .i64 0]).ext a);have z:=G ((aa o _).trans a);clear a;have J:=d.out.cell;have I:=d.out.frozen);have w:=(d.out.put4 (.int .i64 0) (.string ⟨#[]⟩) (.int .i64 0) (.int .i64 0)).cell;exact bodyPost_ret (v:=de (.error 3)) (by simp[results,results154,go_sem,de,w]) rfl ⟨by rw[y.out],z.out.put4 (ah _) _ _ _ _⟩
  ·have H:m.head? ≠some 39:=by rw[ky,aI V];intro e;exact hq (ab e)
   have an:((m[0].toNat:Int)==39)=false:=(ep m[0] 39 Qa).trans (Qn.2 hq);generalize m[0]=ax at*;by_cases hln:m.length<n+1
   ·have y:=G (show jT (c::m)= .error 3 by rw[u.out,if_pos (.inr (.inr (by rw[qr _ _ Qa];simp)))]);have Z:(m.length:Int)+1<n+2:=Qa
    clear u hn0 hq H;go_enter func154,ntmps154;go_wp2_with (go_at_call 202;refine(A.out _).mono ?_;rintro e F ⟨rfl,a⟩;have d:=G ((aq o 188 #[.int .i64 0, .string ⟨#[]⟩, .int .i64 0, .int .i64 0]).ext a);have z:=G ((aa o _).trans a);clear a;have J:=d.out.cell;have I:=d.out.frozen);have w:=(d.out.put4 (.int .i64 0) (.string ⟨#[]⟩) (.int .i64 0) (.int .i64 0)).cell;exact bodyPost_ret (v:=de (.error 3)) (by simp[results,results154,go_sem,de,w]) rfl ⟨by rw[y.out],z.out.put4 (ah _) _ _ _ _⟩
   ·have M:n<m.length:=Qa
    have al:n+1<(ak (c::m)).size:=by rw[K];omega
    have ad:(ak (c::m))[n+1]=m[n]:=rfl;have Z: ¬(m.length:Int)+1<n+2:=Qa
    by_cases he:m[n]=39
    ·have y:=G (show jT (c::m)= .ok ((3,[],(v.toNat:Int)),n+2) by
      rw[u.out,if_neg];rintro(h|h|h)
      ·exact hn0 h
      ·exact H h
      ·exact h (by rw[oF _ _ M,he]))
     rw[he]at ad;clear u hn0 hq H he;go_enter func154,ntmps154;go_wp2_with (go_at_call 202;refine(A.out _).mono ?_;rintro e F ⟨rfl,a⟩;have d:=G ((aq o 188 #[.int .i64 0, .string ⟨#[]⟩, .int .i64 0, .int .i64 0]).ext a);have z:=G ((aa o _).trans a);clear a;have J:=d.out.cell;have I:=d.out.frozen);have w:=(d.out.put4 (.int .i64 3) (.string ⟨#[]⟩) (.int .i64 (v.toNat:Int)) (.int .i64 0)).cell;exact bodyPost_ret (v:=de (.ok ((3,[],(v.toNat:Int)),n+2))) (by simp[results,results154,go_sem,de,w];rfl) rfl ⟨by rw[y.out],z.out.put4 (ah _) _ _ _ _⟩
    ·have y:=G (show jT (c::m)= .error 3 by
      rw[u.out,if_pos (.inr (.inr (by rw[oF _ _ M];intro e;exact he (ab e))))])
     have ae:((m[n].toNat:Int)==39)=false:=(ep m[n] 39 Qa).trans (Qn.2 he);have av:((m[n].toNat:Int) !=39)=true:=by rw[bne,ae];rfl
     generalize m[n]=ag at*;clear u hn0 hq H he;go_enter func154,ntmps154;go_wp2_with (go_at_call 202;refine(A.out _).mono ?_;rintro e F ⟨rfl,a⟩;have d:=G ((aq o 188 #[.int .i64 0, .string ⟨#[]⟩, .int .i64 0, .int .i64 0]).ext a);have z:=G ((aa o _).trans a);clear a;have J:=d.out.cell;have I:=d.out.frozen);have w:=(d.out.put4 (.int .i64 0) (.string ⟨#[]⟩) (.int .i64 0) (.int .i64 0)).cell;exact bodyPost_ret (v:=de (.error 3)) (by simp[results,results154,go_sem,de,w]) rfl ⟨by rw[y.out],z.out.put4 (ah _) _ _ _ _⟩
theorem bt:lU prog 36 5:=⟨underlying36,by kernel_rfl⟩
theorem Sl.one (a:World) (v:UInt8):Sl (a.alloc (.cells #[.int .u8 (v.toNat:Int)] 5)) (some ⟨a.heap.size,0,none⟩) 1 [v]:=
 ⟨by simp,by simp[maxLen],(λo=>by cases o), .inr ⟨a.heap.size,0,rfl,by simp,λi h=>by
  have d:i=0:=by simp at h;omega
  subst d;rw[(aq a 5 #[.int .u8 (v.toNat:Int)]).cell]
  rfl⟩⟩
theorem sQ {m:List UInt8} {j:Nat} (d:j<m.length) (a:m[j]=34):kI (m.drop j)=some ([],1):=by
 rw[ap d,a];exact Bl _
theorem sR {m:List UInt8} {j:Nat} (h:j<m.length) (d:m[j]≠34) (a:(cW (m.drop j)).2=0):kI (m.drop j)=none:=by
 rw[ap h]at a⊢;exact Bm d a
theorem rj {m:List UInt8} {j:Nat} (o:j<m.length) (d:m[j]≠34) (h:(cW (m.drop j)).2≠0):kI (m.drop j)=(kI (m.drop (j+(cW (m.drop j)).2))).map λx=>((cW (m.drop j)).1::x.1,(cW (m.drop j)).2+x.2):=by
 have e:m.drop (j+(cW (m.drop j)).2)=(m.drop j).drop (cW (m.drop j)).2:=by rw[d6]
 rw[e];generalize a:m.drop j=u at*;rw[ap o]at a;subst a;exact yN d h
theorem yh (c:UInt8) (m:List UInt8):j8 (c::m)=match kI m with
 |none=> .error 3
 |some (t,n)=>if 128<t.length then .error 6 else .ok ((4,t,0),n+1):=rfl
theorem zZ (c:UInt8) (m:List UInt8) (aZ:m.length<=100000) (a:World):Calls prog 155 #[.string (ak (c::m))] a λe w'=>e= .returned (de (j8 (c::m)))/\au a w':=by
 have ay:(ak (c::m)).size=m.length+1:=by rw[a7];rfl
 have o:=G (yh c m);go_enter func155,ntmps155;go_wp2_with fail
 go_loopw [5,6] (λav M wr=> ∃(B:Option Addr) (J:Nat) (b:List UInt8) (j:Nat),av= .slice B b.length J/\gT wr (a.heap.size+1) 5 (.slice B b.length J) b/\M= .int .i64 ((j+1:Nat):Int)/\j<=m.length/\b.length<=j/\
   Hid (kI m=(kI (m.drop j)).map λx=>(b++x.1,j+x.2))/\aM wr a.heap.size 188 #[.int .i64 0, .string ⟨#[]⟩, .int .i64 0, .int .i64 0]/\au a wr) (λ_ M _=>m.length+1-(intOf M).toNat)
 case atStart=>
  refine⟨none,0,[],0,rfl,gT.nil_ _ _ _,rfl,aD _,aD _,G ?_,aq a _ _,aa a _⟩
  cases F:kI m<;>simp[F]
 case round=>
  obtain⟨B,J,b,j,rfl,af,rfl,a2,a6,u,A,ad⟩:=hrel;have ao:=G af;have w:=G A;have H:=G ad;have X:=A.cell;have V:=A.frozen;have aS:=A.lt;clear af A ad;have aB:((j+1:Nat):Int)=(j:Int)+1:=Qa
  rw[aB];by_cases hlt:j<m.length
  ·have a1:j+1<(ak (c::m)).size:=by rw[ay];omega
   have aE:(ak (c::m))[j+1]=m[j]:=rfl;have az:(j:Int)+1<m.length+1:=Qa
   by_cases h34:m[j]=34
   ·have I:kI m=some (b,j+1):=by rw[u.out,sQ hlt h34];simp
    rw[h34]at aE;by_cases h128:128<b.length
    ·have z:=G (show j8 (c::m)= .error 6 by rw[o.out,I];simp only;rw[if_pos h128]);have aG:(128:Int)<b.length:=Qa
     clear h34 I o u;go_wp2_with fail;have y:=(w.out.put4 (.int .i64 0) (.string ⟨#[]⟩) (.int .i64 0) (.int .i64 0)).cell;exact bodyPost_ret (v:=de (.error 6)) (by simp[results,results155,go_sem,de,y]) rfl ⟨by rw[z.out],H.out.put4 (ah _) _ _ _ _⟩
    ·have z:=G (show j8 (c::m)= .ok ((4,b,0),j+1+1) by rw[o.out,I];simp only;rw[if_neg h128]);have aG: ¬(128:Int)<b.length:=Qa
     have a5:=ao.out.sl.2.convert (P:=prog) (src:=36) (dst:=9) underlying36 underlying5 underlying9;clear h34 I o u;go_wp2_with fail;have y:=(w.out.put4 (.int .i64 4) (.string (ak b)) (.int .i64 0) (.int .i64 0)).cell;exact bodyPost_ret (v:=de (.ok ((4,b,0),j+1+1))) (by simp[results,results155,go_sem,de,y]) rfl ⟨by rw[z.out],H.out.put4 (ah _) _ _ _ _⟩
   ·have aC:((m[j].toNat:Int)==34)=false:=(ep m[j] 34 Qa).trans (Qn.2 h34);have a3:((m[j].toNat:Int) !=34)=true:=by rw[bne,aC];rfl
    have a4:(ak (c::m)).extract (j+1) (m.length+1)=ak (m.drop j):=by
     have:=fy (c::m) (j+1) (m.length+1);rw[bO Qe]at this;exact this
    have ar:=G (λa=>uK (m.drop j) a (by rw[bH];omega));obtain⟨aA,aY⟩:=lP (m.drop j);rw[bH]at aA;have ab:=G (λF=>sR (m:=m) hlt h34 F);have Z:=G (λF=>rj (m:=m) hlt h34 F);generalize ax:(cW (m.drop j)).1=v at*;generalize ai:(cW (m.drop j)).2=n at*;generalize m[j]=a8 at*;have a9:=G ai;have aV:=v.toNat_lt;have aU:(v.toNat:Int)<256:=Qa
    clear ax ai h34;generalize am:m.drop j=aR at*;have ba:=G am;clear am;by_cases hn0:n=0
    ·have z:=G (show j8 (c::m)= .error 3 by rw[o.out,u.out,ab.out hn0];rfl);subst hn0;clear o u ab Z;go_wp2_with (go_at_call 202;refine(ar.out _).mono ?_;rintro e K ⟨rfl,d⟩;have w:=G (w.out.ext d);have aN:=G (H.out.trans d);clear d X V;have X:=w.out.cell;have V:=w.out.frozen);have y:=(w.out.put4 (.int .i64 0) (.string ⟨#[]⟩) (.int .i64 0) (.int .i64 0)).cell;exact bodyPost_ret (v:=de (.error 3)) (by simp[results,results155,go_sem,de,y]) rfl ⟨by rw[z.out],aN.out.put4 (ah _) _ _ _ _⟩
    ·have aW:((n:Int)==0)=false:=by simp[hn0]
     have aX:1<=n:=Qa
     have aJ:=G (show kI m=(kI (m.drop (j+n))).map λx=>((b++[v])++x.1,(j+n)+x.2) by
      rw[u.out,Z.out hn0,Option.map_map]
      congr 1
      funext x
      simp[e_])
     clear o u ab Z hn0
     go_wp2_with (first
      |(go_at_call 202;refine(ar.out _).mono ?_;rintro e K ⟨rfl,d⟩;have an:=G (ao.out.ext (d.alloc' (.cells #[.int .u8 (v.toNat:Int)] 5)));have aO:=G (w.out.ext (d.alloc' (.cells #[.int .u8 (v.toNat:Int)] 5)));have aL:=G (H.out.trans (d.alloc' (.cells #[.int .u8 (v.toNat:Int)] 5)));have aT:=d.size;clear d X V)
      |(at_builtin;refine eF bt rfl _ _ rfl (a.heap.size+1) (.slice B b.length J) b rfl an.out (some ⟨K.heap.size,0,none⟩) 1 [v] rfl (Sl.one K v) Qg Qg ?_;intro aP aH aQ ag al _;have aI:=G ag;have ap:=G al;clear ag al))
     go_roundw
     case rel=>
      have ae:=λk R=>(World.ownsRow.lt an.out k R).1;have aw:=aL.out.grown ap.out (λk R=>by have:=ae k R;omega);have aF:=aO.out.grown ap.out (λe=>by have:=ae _ e.symm;omega);refine⟨aP,aH,b++[v],j+n,by rw[ac];rfl,?_,by go_num,by omega,by rw[ac];simp;omega,aJ,aF,aw⟩;rw[ac];exact aI.out
     case measure=>simp[intOf];omega
  ·have aj:m.drop j=[]:=aK Qa;have z:=G (show j8 (c::m)= .error 3 by rw[o.out,u.out,aj];rfl);have az: ¬(j:Int)+1<m.length+1:=Qa
   clear o u aj;go_wp2_with fail;have y:=(w.out.put4 (.int .i64 0) (.string ⟨#[]⟩) (.int .i64 0) (.int .i64 0)).cell;exact bodyPost_ret (v:=de (.error 3)) (by simp[results,results155,go_sem,de,y]) rfl ⟨by rw[z.out],H.out.put4 (ah _) _ _ _ _⟩
theorem ul (c:UInt8):0<=Lib.indexByte qf c↔qf.contains c=true:=by
 rcases pO c qf with⟨d,a⟩|⟨d,a⟩
 ·rw[d,a];simp
 ·rw[a];simp[d]
theorem tR (a b:UInt8) (l:List UInt8):([a,b]:List UInt8).isPrefixOf l=(l.take 2==[a,b]):=by
 match l with
 | []=>rfl
 | [c]=>simp[List.isPrefixOf]
 |c::d::r=>
  simp only[List.isPrefixOf,iv,List.take_succ_cons,List.take_zero];rw[show(a==c)=(c==a)from BEq.comm,show(b==d)=(d==b)from BEq.comm];simp
def il (i:Nat) (l:List UInt8):Bool:=(two.getD i []).isPrefixOf l
theorem zP (l:List UInt8):two.contains (l.take 2)=(il 0 l||il 1 l||il 2 l||il 3 l||il 4 l||il 5 l):=by
 unfold il two;simp only[List.getD_cons_zero,List.getD_cons_succ,tR,gJ,List.contains_nil,mu,Bool.or_assoc]
theorem AT {i:Nat} {l:List UInt8} (h:i<6) (a:il i l=true):l.take 2=two.getD i []:=by
 unfold il two at a;unfold two;have d:i=0\/i=1\/i=2\/i=3\/i=4\/i=5:=Qa
 rcases d with rfl|rfl|rfl|rfl|rfl|rfl<;>(simp only[List.getD_cons_zero,List.getD_cons_succ,tR]at a⊢;exact beq_iff_eq.1 a)
theorem ki {l:List UInt8} {i:Nat} {t:List UInt8} (d:i<6) (a:two.getD i []=t) (o:il i l=true) (h:two.contains (l.take 2)=true):jO l= .ok ((5,t,0),2):=by
 unfold jO;rw[if_pos h,AT d o,a]
theorem Bh (c:UInt8) (m:List UInt8) (R:m.length<=100000) (a:World):Calls prog 156 #[.string (ak (c::m))] a λe w'=>e= .returned (de (jO (c::m)))/\au a w':=by
 have I:(ak (c::m)).size=m.length+1:=by rw[a7];rfl
 have Z:0<(ak (c::m)).size:=by rw[I];omega
 have V:(ak (c::m))[0]=c:=rfl;have X:(ak (c::m)).extract 0 1=ak [c]:=by rw[fy];rfl
 have K:=G (zP (c::m));have z:=G (λa (p:List UInt8)=>qc (c::m) p a);have M:=G (λa=>oD qf c a);go_enter func156,ntmps156;go_wp2_with fail
 go_loop [8] (λy=>(y= .int .i64 0/\Hid (two.contains ((c::m).take 2)=(il 0 (c::m)||il 1 (c::m)||il 2 (c::m)||il 3 (c::m)||il 4 (c::m)||il 5 (c::m))))\/(y= .int .i64 1/\Hid (two.contains ((c::m).take 2)=(il 1 (c::m)||il 2 (c::m)||il 3 (c::m)||il 4 (c::m)||il 5 (c::m))))\/(y= .int .i64 2/\Hid (two.contains ((c::m).take 2)=(il 2 (c::m)||il 3 (c::m)||il 4 (c::m)||il 5 (c::m))))\/(y= .int .i64 3/\Hid (two.contains ((c::m).take 2)=(il 3 (c::m)||il 4 (c::m)||il 5 (c::m))))\/(y= .int .i64 4/\Hid (two.contains ((c::m).take 2)=(il 4 (c::m)||il 5 (c::m))))\/(y= .int .i64 5/\Hid (two.contains ((c::m).take 2)=(il 5 (c::m))))\/(y= .int .i64 6/\Hid (two.contains ((c::m).take 2)=(false)))) (λy=>7-(intOf y).toNat)
 case atStart=>exact .inl ⟨rfl,K⟩
 case round=>
  rcases hrel with⟨rfl,d⟩|⟨rfl,d⟩|⟨rfl,d⟩|⟨rfl,d⟩|⟨rfl,d⟩|⟨rfl,d⟩|⟨rfl,d⟩
  ·have A: ∀a:World,(Instr.index 282 (.agg #[.string ⟨#[61,61]⟩, .string ⟨#[33,61]⟩, .string ⟨#[60,61]⟩, .string ⟨#[62,61]⟩, .string ⟨#[38,38]⟩, .string ⟨#[124,124]⟩]) (.int .i64 0)).run prog a= .ok (.string ⟨#[61,61]⟩) a:=λa=>by(show _=_;kernel_rfl)
   have o:=G (λa=>(show Calls prog 150 #[.string (ak (c::m)), .string ⟨#[61,61]⟩] a λe w'=>e= .returned (.bool (il 0 (c::m)))/\a=w' from z.out a [61,61]))
   cases hp:il 0 (c::m)with
   |true=>
    have u:=G (ki (i:=0) (t:=[61,61]) Qa rfl hp (by rw[d.out,hp];simp));rw[hp]at o;clear hp d;go_wp2_with (go_at_call 150;refine(o.out _).mono ?_;rintro e w' ⟨rfl,rfl⟩);exact bodyPost_ret (v:=de (.ok ((5,[61,61],0),2))) (by simp[results,results156,go_sem,de];rfl) rfl ⟨by rw[u.out],aa a _⟩
   |false=>
    have w:=G (show two.contains ((c::m).take 2)=(il 1 (c::m)||il 2 (c::m)||il 3 (c::m)||il 4 (c::m)||il 5 (c::m)) by rw[d.out,hp];simp);rw[hp]at o;clear hp d;go_wp2_with (go_at_call 150;refine(o.out _).mono ?_;rintro e w' ⟨rfl,rfl⟩)
    go_round
    case rel=>exact .inr (.inl ⟨rfl,w⟩)
    case measure=>simp[intOf]
  ·have A: ∀a:World,(Instr.index 282 (.agg #[.string ⟨#[61,61]⟩, .string ⟨#[33,61]⟩, .string ⟨#[60,61]⟩, .string ⟨#[62,61]⟩, .string ⟨#[38,38]⟩, .string ⟨#[124,124]⟩]) (.int .i64 1)).run prog a= .ok (.string ⟨#[33,61]⟩) a:=λa=>by(show _=_;kernel_rfl)
   have o:=G (λa=>(show Calls prog 150 #[.string (ak (c::m)), .string ⟨#[33,61]⟩] a λe w'=>e= .returned (.bool (il 1 (c::m)))/\a=w' from z.out a [33,61]))
   cases hp:il 1 (c::m)with
   |true=>
    have u:=G (ki (i:=1) (t:=[33,61]) Qa rfl hp (by rw[d.out,hp];simp));rw[hp]at o;clear hp d;go_wp2_with (go_at_call 150;refine(o.out _).mono ?_;rintro e w' ⟨rfl,rfl⟩);exact bodyPost_ret (v:=de (.ok ((5,[33,61],0),2))) (by simp[results,results156,go_sem,de];rfl) rfl ⟨by rw[u.out],aa a _⟩
   |false=>
    have w:=G (show two.contains ((c::m).take 2)=(il 2 (c::m)||il 3 (c::m)||il 4 (c::m)||il 5 (c::m)) by rw[d.out,hp];simp);rw[hp]at o;clear hp d;go_wp2_with (go_at_call 150;refine(o.out _).mono ?_;rintro e w' ⟨rfl,rfl⟩)
    go_round
    case rel=>exact .inr (.inr (.inl ⟨rfl,w⟩))
    case measure=>simp[intOf]
  ·have A: ∀a:World,(Instr.index 282 (.agg #[.string ⟨#[61,61]⟩, .string ⟨#[33,61]⟩, .string ⟨#[60,61]⟩, .string ⟨#[62,61]⟩, .string ⟨#[38,38]⟩, .string ⟨#[124,124]⟩]) (.int .i64 2)).run prog a= .ok (.string ⟨#[60,61]⟩) a:=λa=>by(show _=_;kernel_rfl)
   have o:=G (λa=>(show Calls prog 150 #[.string (ak (c::m)), .string ⟨#[60,61]⟩] a λe w'=>e= .returned (.bool (il 2 (c::m)))/\a=w' from z.out a [60,61]))
   cases hp:il 2 (c::m)with
   |true=>
    have u:=G (ki (i:=2) (t:=[60,61]) Qa rfl hp (by rw[d.out,hp];simp));rw[hp]at o;clear hp d;go_wp2_with (go_at_call 150;refine(o.out _).mono ?_;rintro e w' ⟨rfl,rfl⟩);exact bodyPost_ret (v:=de (.ok ((5,[60,61],0),2))) (by simp[results,results156,go_sem,de];rfl) rfl ⟨by rw[u.out],aa a _⟩
   |false=>
    have w:=G (show two.contains ((c::m).take 2)=(il 3 (c::m)||il 4 (c::m)||il 5 (c::m)) by rw[d.out,hp];simp);rw[hp]at o;clear hp d;go_wp2_with (go_at_call 150;refine(o.out _).mono ?_;rintro e w' ⟨rfl,rfl⟩)
    go_round
    case rel=>exact .inr (.inr (.inr (.inl ⟨rfl,w⟩)))
    case measure=>simp[intOf]
  ·have A: ∀a:World,(Instr.index 282 (.agg #[.string ⟨#[61,61]⟩, .string ⟨#[33,61]⟩, .string ⟨#[60,61]⟩, .string ⟨#[62,61]⟩, .string ⟨#[38,38]⟩, .string ⟨#[124,124]⟩]) (.int .i64 3)).run prog a= .ok (.string ⟨#[62,61]⟩) a:=λa=>by(show _=_;kernel_rfl)
   have o:=G (λa=>(show Calls prog 150 #[.string (ak (c::m)), .string ⟨#[62,61]⟩] a λe w'=>e= .returned (.bool (il 3 (c::m)))/\a=w' from z.out a [62,61]))
   cases hp:il 3 (c::m)with
   |true=>
    have u:=G (ki (i:=3) (t:=[62,61]) Qa rfl hp (by rw[d.out,hp];simp));rw[hp]at o;clear hp d;go_wp2_with (go_at_call 150;refine(o.out _).mono ?_;rintro e w' ⟨rfl,rfl⟩);exact bodyPost_ret (v:=de (.ok ((5,[62,61],0),2))) (by simp[results,results156,go_sem,de];rfl) rfl ⟨by rw[u.out],aa a _⟩
   |false=>
    have w:=G (show two.contains ((c::m).take 2)=(il 4 (c::m)||il 5 (c::m)) by rw[d.out,hp];simp);rw[hp]at o;clear hp d;go_wp2_with (go_at_call 150;refine(o.out _).mono ?_;rintro e w' ⟨rfl,rfl⟩)
    go_round
    case rel=>exact .inr (.inr (.inr (.inr (.inl ⟨rfl,w⟩))))
    case measure=>simp[intOf]
  ·have A: ∀a:World,(Instr.index 282 (.agg #[.string ⟨#[61,61]⟩, .string ⟨#[33,61]⟩, .string ⟨#[60,61]⟩, .string ⟨#[62,61]⟩, .string ⟨#[38,38]⟩, .string ⟨#[124,124]⟩]) (.int .i64 4)).run prog a= .ok (.string ⟨#[38,38]⟩) a:=λa=>by(show _=_;kernel_rfl)
   have o:=G (λa=>(show Calls prog 150 #[.string (ak (c::m)), .string ⟨#[38,38]⟩] a λe w'=>e= .returned (.bool (il 4 (c::m)))/\a=w' from z.out a [38,38]))
   cases hp:il 4 (c::m)with
   |true=>
    have u:=G (ki (i:=4) (t:=[38,38]) Qa rfl hp (by rw[d.out,hp];simp));rw[hp]at o;clear hp d;go_wp2_with (go_at_call 150;refine(o.out _).mono ?_;rintro e w' ⟨rfl,rfl⟩);exact bodyPost_ret (v:=de (.ok ((5,[38,38],0),2))) (by simp[results,results156,go_sem,de];rfl) rfl ⟨by rw[u.out],aa a _⟩
   |false=>
    have w:=G (show two.contains ((c::m).take 2)=(il 5 (c::m)) by rw[d.out,hp];simp);rw[hp]at o;clear hp d;go_wp2_with (go_at_call 150;refine(o.out _).mono ?_;rintro e w' ⟨rfl,rfl⟩)
    go_round
    case rel=>exact .inr (.inr (.inr (.inr (.inr (.inl ⟨rfl,w⟩)))))
    case measure=>simp[intOf]
  ·have A: ∀a:World,(Instr.index 282 (.agg #[.string ⟨#[61,61]⟩, .string ⟨#[33,61]⟩, .string ⟨#[60,61]⟩, .string ⟨#[62,61]⟩, .string ⟨#[38,38]⟩, .string ⟨#[124,124]⟩]) (.int .i64 5)).run prog a= .ok (.string ⟨#[124,124]⟩) a:=λa=>by(show _=_;kernel_rfl)
   have o:=G (λa=>(show Calls prog 150 #[.string (ak (c::m)), .string ⟨#[124,124]⟩] a λe w'=>e= .returned (.bool (il 5 (c::m)))/\a=w' from z.out a [124,124]))
   cases hp:il 5 (c::m)with
   |true=>
    have u:=G (ki (i:=5) (t:=[124,124]) Qa rfl hp (by rw[d.out,hp]));rw[hp]at o;clear hp d;go_wp2_with (go_at_call 150;refine(o.out _).mono ?_;rintro e w' ⟨rfl,rfl⟩);exact bodyPost_ret (v:=de (.ok ((5,[124,124],0),2))) (by simp[results,results156,go_sem,de];rfl) rfl ⟨by rw[u.out],aa a _⟩
   |false=>
    have w:=G (show two.contains ((c::m).take 2)=(false) by rw[d.out,hp]);rw[hp]at o;clear hp d;go_wp2_with (go_at_call 150;refine(o.out _).mono ?_;rintro e w' ⟨rfl,rfl⟩)
    go_round
    case rel=>exact .inr (.inr (.inr (.inr (.inr (.inr (⟨rfl,w⟩))))))
    case measure=>simp[intOf]
  ·have F:=G (λa=>(show Calls prog 149 #[.string ⟨#[40,41,123,125,91,93,44,59,61,43,45,42,47,37,60,62,33]⟩, .int .u8 (c.toNat:Int)] a λe w'=>e= .returned (.int .i64 (Lib.indexByte qf c))/\a=w' from M.out a));by_cases h1:0<=Lib.indexByte qf c
   ·have u:=G (show jO (c::m)= .ok ((5,[c],0),1) by
     unfold jO;rw[d.out,if_neg Qe,if_pos]
     ·rfl
     ·show(some c).any (λc=>qf.contains c)=true
      simpa using(ul c).1 h1)
    generalize Lib.indexByte qf c=H at*;clear d;go_wp2_with (go_at_call 149;refine(F.out _).mono ?_;rintro e w' ⟨rfl,rfl⟩);exact bodyPost_ret (v:=de (.ok ((5,[c],0),1))) (by simp[results,results156,go_sem,de]) rfl ⟨by rw[u.out],aa a _⟩
   ·have u:=G (show jO (c::m)= .error 3 by
     unfold jO;rw[d.out,if_neg Qe,if_neg];show ¬(some c).any (λc=>qf.contains c)=true;intro J
     exact h1 ((ul c).2 (by simpa using J)))
    generalize Lib.indexByte qf c=H at*;clear d;go_wp2_with (go_at_call 149;refine(F.out _).mono ?_;rintro e w' ⟨rfl,rfl⟩);exact bodyPost_ret (v:=de (.error 3)) (by simp[results,results156,go_sem,de]) rfl ⟨by rw[u.out],aa a _⟩
def EZ (w:World):Prop:=(∃ev,w.cell? ⟨4,0,none⟩=some ev/\(ev= .nilIface\/ ∃te pe,ev= .iface te pe))/\(∃ev,w.cell? ⟨5,0,none⟩=some ev/\(ev= .nilIface\/ ∃te pe,ev= .iface te pe))
theorem EZ.ext {a w':World} (o:EZ a) (d:au a w'):EZ w':=by
 obtain⟨⟨w,h,u⟩,b,b1,b2⟩:=o;exact⟨⟨w,(d.cell _ _ (World.block_lt_of_cell? _ _ h)).trans h,u⟩,b,(d.cell _ _ (World.block_lt_of_cell? _ _ b1)).trans b1,b2⟩
theorem rA (p:UInt8->Bool): ∀l:List UInt8,∀c∈l.take (cJ p l),p c=true
 | [],c,h=>by simp at h
 |x::l,c,h=>by
  simp only[cJ]at h;split at h
  ·rename_i a;rw[List.take_succ_cons]at h;rcases List.mem_cons.1 h with rfl|h
   ·exact a
   ·exact rA p l c h
  ·simp at h
def uP (acc:Nat) (l:List UInt8):Nat:=l.foldl (λv c=>v*10+(c.toNat-48)) acc
theorem xH: ∀(l:List UInt8) (a:Nat),a<=uP a l
 | [],a=>ah _
 |c::l,a=>by
  have:=xH l (a*10+(c.toNat-48));show a<=uP (a*10+(c.toNat-48)) l;omega
theorem oY: ∀(l:List UInt8) (a:Nat),(∀c∈l,fF c=true)->Lib.parseUint10 a l= .ok (uP a l)\/(Lib.parseUint10 a l= .range/\18446744073709551616<=uP a l)
 | [],a,_=> .inl rfl
 |c::l,a,h=>by
  have u:48<=c.toNat/\c.toNat<=57:=by have:=h c (gH ..);unfold fF at this;simpa using this
  have y:=xH l (a*10+(c.toNat-48));have d:uP a (c::l)=uP (a*10+(c.toNat-48)) l:=rfl;simp only[Lib.parseUint10];rw[if_pos u,d];split
  ·exact .inr ⟨rfl,by omega⟩
  ·split
   ·exact .inr ⟨rfl,by omega⟩
   ·exact oY l _ λw o=>h w (iD _ o)
theorem vh {l:List UInt8} (z:l≠ []) (y: ∀c∈l,fF c=true):(Lib.atoiAll l= .ok (nO l:Int))\/(Lib.atoiAll l= .range/\Lib.atoiSat l=9223372036854775807/\9223372036854775808<=nO l):=by
 match l with
 | []=>exact absurd rfl z
 |c::r=>
  have A:48<=c.toNat/\c.toNat<=57:=by have:=y c (gH ..);unfold fF at this;simpa using this
  have w: ¬c.toNat=45:=Qa
  have o: ¬(c.toNat=43\/c.toNat=45):=Qa
  have h:nO (c::r)=uP 0 (c::r):=rfl;have u:Lib.atoiSat (c::r)=9223372036854775807:=by
   unfold Lib.atoiSat;rw[if_neg Qg]
  have d:Lib.parseMag (c::r)=Lib.parseUint10 0 (c::r):=by unfold Lib.parseMag;rw[if_neg Qe]
  rcases oY (c::r) 0 y with a|⟨a,h2⟩
  ·by_cases hb:9223372036854775808<=uP 0 (c::r)
   ·refine .inr ⟨?_,u,by rw[h];exact hb⟩;simp only[Lib.atoiAll];rw[if_neg o,d,a];simp only;rw[if_pos ⟨w,hb⟩]
   ·refine .inl ?_;simp only[Lib.atoiAll];rw[if_neg o,d,a];simp only;rw[if_neg Qa,if_neg Qa,if_neg w,h]
  ·refine .inr ⟨?_,u,by rw[h];omega⟩;simp only[Lib.atoiAll];rw[if_neg o,d,a]
theorem Cq (l:List UInt8) (y:l≠ []) (G:l.length<=100000) (h: ∀c∈l,fF c=true) (a:World) (w:EZ a):
  ∃v:Int,(v=nO l\/(v=9223372036854775807/\9223372036854775808<=nO l))/\Calls prog 201 #[.string (ak l)] a λe w'=>(∃F,e= .returned (.tuple #[.int .i64 v,F]))/\au a w':=by
 rcases vh y h with d|⟨d,h2,h3⟩
 ·refine⟨nO l, .inl rfl,?_⟩;refine(Tryz.strconv_Atoi_ok (ak l) (by rw[a7];omega) (nO l) (by rw[jq];exact d) a).mono ?_;rintro e w' ⟨rfl,h⟩;refine⟨⟨_,rfl⟩,?_⟩;rcases h with rfl|⟨t,rfl⟩
  ·exact aG _
  ·exact Lib.bytesWorld_below _ _ _
 ·refine⟨9223372036854775807, .inr ⟨rfl,h3⟩,?_⟩;obtain⟨A,u,o⟩:=w.2;refine(Tryz.strconv_Atoi_range (ak l) (by rw[a7];omega) (by rw[jq];exact d) A a u o).mono ?_;rintro e w' ⟨N,rfl,_,_,z⟩;rw[jq,h2];exact⟨⟨_,rfl⟩,z⟩
theorem A_ (c:UInt8) (m:List UInt8) {n:Nat} {x:List UInt8} (d:cJ fF (c::m)=n) (a:(c::m).take n=x):jv (c::m)=if((c::m).drop n).head?.any fV then .error 3 else if 10<n\/(1<n/\c=48)\/2147483647<nO x then .error 2 else .ok ((3,[],nO x),n):=by
 subst d;subst a;unfold jv;simp
theorem Dx (c:UInt8) (m:List UInt8) {n:Nat} (d:n<=m.length+1) (a: ¬n<m.length+1):((c::m).drop n).head?.any fV=false:=by
 rw[aK Qg];rfl
theorem FW (c:UInt8) (m:List UInt8) {n:Nat} (a:n<(c::m).length):((c::m).drop n).head?.any fV=fV (c::m)[n]:=by
 rw[oF _ _ a];rfl
theorem wj (c:UInt8) (m:List UInt8) (M:fF c=true) (an:(c::m).length<=100000) (ae:World) (ar:EZ ae):Calls prog 153 #[.string (ak (c::m))] ae λe w'=>e= .returned (de (jv (c::m)))/\au ae w':=by
 have am:(ak (c::m)).size=m.length+1:=by rw[a7];rfl
 have aI:0<(ak (c::m)).size:=by rw[am];omega
 have aG:(ak (c::m))[0]=c:=rfl;have aF:m.length<=99999:=by simpa using an
 have aA:cJ fF (c::m)<=m.length+1:=jr fF (c::m);have aE:1<=cJ fF (c::m):=by simp[cJ,M]
 have ao:=rA fF (c::m);have aB:=fy (c::m) 0 (cJ fF (c::m));simp only[aw]at aB;have V:=G (λae=>t8 fF 152 oH (.inr rfl) (c::m) an ae);have ap:=λx o=>G (A_ c m (n:=cJ fF (c::m)) (x:=x) rfl o);have R:=G (aa ae (.cells #[.int .i64 0, .string ⟨#[]⟩, .int .i64 0, .int .i64 0] 188));have X:=G (aq ae 188 #[.int .i64 0, .string ⟨#[]⟩, .int .i64 0, .int .i64 0]);have aj:(c::m).take (cJ fF (c::m))≠ []:=by intro o;have:=congrArg List.length o;simp at this;omega
 have al:((c::m).take (cJ fF (c::m))).length<=100000:=by have:=List.length_take_le' (cJ fF (c::m)) (c::m);omega
 obtain⟨v,ax,K⟩:=Cq ((c::m).take (cJ fF (c::m))) aj al ao _ (ar.ext R.out);have K:=G K;have w:=ap _ rfl;clear ap;generalize ay:cJ fF (c::m)=n at*;generalize av:(c::m).take n=x at*;clear ay aj ao al av;have F:v<=2147483647->v=nO x:=Qa
 have H:2147483647<v->2147483647<nO x:=Qa
 have I:v<=2147483647-> ¬2147483647<nO x:=Qa
 clear ax;by_cases hlt:n<m.length+1
 ·have aD:n<(ak (c::m)).size:=by rw[am];exact hlt
  have aH:(ak (c::m))[n]=(c::m)[n]'hlt:=rfl;have u:=FW c m (n:=n) hlt;have J:=G (nA ((c::m)[n]'hlt));have az:(n:Int)<m.length+1:=Qa
  generalize (c::m)[n]'hlt=aC at*
  cases hp:fV aC with
  |true=>
   rw[hp]at J u;have A:=G (show jv (c::m)= .error 3 by rw[w.out,u,if_pos rfl]);clear u hp;clear w M F H I;go_enter func153,ntmps153
   go_wp2_with (first
    |(go_at_call 200;refine(V.out _).mono ?_;rintro e w' ⟨rfl,rfl⟩)
    |(go_at_call 201;refine K.out.mono ?_;rintro e Z ⟨⟨ad,rfl⟩,a⟩;have d:=G (X.out.ext a);have z:=G (R.out.trans a);clear a;have ac:=d.out.cell;have ab:=d.out.frozen)
    |(go_at_call 107;refine(J.out _).mono ?_;rintro e w' ⟨rfl,rfl⟩))
   have y:=(d.out.put4 (.int .i64 0) (.string ⟨#[]⟩) (.int .i64 0) (.int .i64 0)).cell;exact bodyPost_ret (v:=de (.error 3)) (by simp[results,results153,go_sem,de,y]) rfl ⟨by rw[A.out],z.out.put4 (ah _) _ _ _ _⟩
  |false=>
   rw[hp]at J u;clear hp;by_cases hA:10<n
   ·have ai:(10:Int)<n:=Qa
    have A:=G (show jv (c::m)= .error 2 by rw[w.out,u,if_neg Qe,if_pos (.inl hA)]);clear u;clear w M F H I;go_enter func153,ntmps153
    go_wp2_with (first
     |(go_at_call 200;refine(V.out _).mono ?_;rintro e w' ⟨rfl,rfl⟩)
     |(go_at_call 201;refine K.out.mono ?_;rintro e Z ⟨⟨ad,rfl⟩,a⟩;have d:=G (X.out.ext a);have z:=G (R.out.trans a);clear a;have ac:=d.out.cell;have ab:=d.out.frozen)
     |(go_at_call 107;refine(J.out _).mono ?_;rintro e w' ⟨rfl,rfl⟩))
    have y:=(d.out.put4 (.int .i64 0) (.string ⟨#[]⟩) (.int .i64 0) (.int .i64 0)).cell;exact bodyPost_ret (v:=de (.error 2)) (by simp[results,results153,go_sem,de,y]) rfl ⟨by rw[A.out],z.out.put4 (ah _) _ _ _ _⟩
   ·have ai: ¬(10:Int)<n:=Qa
    by_cases hB:1<n
    ·have ag:(1:Int)<n:=Qa
     by_cases hC:c=48
     ·have af:((c.toNat:Int)==48)=true:=by rw[hC];rfl
      have A:=G (show jv (c::m)= .error 2 by rw[w.out,u,if_neg Qe,if_pos (.inr (.inl ⟨hB,hC⟩))]);clear u hC;clear w M F H I;go_enter func153,ntmps153
      go_wp2_with (first
       |(go_at_call 200;refine(V.out _).mono ?_;rintro e w' ⟨rfl,rfl⟩)
       |(go_at_call 201;refine K.out.mono ?_;rintro e Z ⟨⟨ad,rfl⟩,a⟩;have d:=G (X.out.ext a);have z:=G (R.out.trans a);clear a;have ac:=d.out.cell;have ab:=d.out.frozen)
       |(go_at_call 107;refine(J.out _).mono ?_;rintro e w' ⟨rfl,rfl⟩))
      have y:=(d.out.put4 (.int .i64 0) (.string ⟨#[]⟩) (.int .i64 0) (.int .i64 0)).cell;exact bodyPost_ret (v:=de (.error 2)) (by simp[results,results153,go_sem,de,y]) rfl ⟨by rw[A.out],z.out.put4 (ah _) _ _ _ _⟩
     ·have af:((c.toNat:Int)==48)=false:=(ep c 48 Qa).trans (Qn.2 hC);by_cases hV:2147483647<v
      ·have A:=G (show jv (c::m)= .error 2 by rw[w.out,u,if_neg Qe,if_pos (.inr (.inr (H hV)))]);clear u;clear hC;clear w M F H I;go_enter func153,ntmps153
       go_wp2_with (first
        |(go_at_call 200;refine(V.out _).mono ?_;rintro e w' ⟨rfl,rfl⟩)
        |(go_at_call 201;refine K.out.mono ?_;rintro e Z ⟨⟨ad,rfl⟩,a⟩;have d:=G (X.out.ext a);have z:=G (R.out.trans a);clear a;have ac:=d.out.cell;have ab:=d.out.frozen)
        |(go_at_call 107;refine(J.out _).mono ?_;rintro e w' ⟨rfl,rfl⟩))
       have y:=(d.out.put4 (.int .i64 0) (.string ⟨#[]⟩) (.int .i64 0) (.int .i64 0)).cell;exact bodyPost_ret (v:=de (.error 2)) (by simp[results,results153,go_sem,de,y]) rfl ⟨by rw[A.out],z.out.put4 (ah _) _ _ _ _⟩
      ·have A:=G (show jv (c::m)= .ok ((3,[],v),n) by rw[w.out,u,if_neg Qe,if_neg (by rintro(o|o|o);exact hA o;exact(λo:1<n/\c=48=>hC o.2) o;exact I Qa o),F Qa]);clear u;clear hC;clear w M F H I;go_enter func153,ntmps153
       go_wp2_with (first
        |(go_at_call 200;refine(V.out _).mono ?_;rintro e w' ⟨rfl,rfl⟩)
        |(go_at_call 201;refine K.out.mono ?_;rintro e Z ⟨⟨ad,rfl⟩,a⟩;have d:=G (X.out.ext a);have z:=G (R.out.trans a);clear a;have ac:=d.out.cell;have ab:=d.out.frozen)
        |(go_at_call 107;refine(J.out _).mono ?_;rintro e w' ⟨rfl,rfl⟩))
       have y:=(d.out.put4 (.int .i64 3) (.string ⟨#[]⟩) (.int .i64 v) (.int .i64 0)).cell;exact bodyPost_ret (v:=de (.ok ((3,[],v),n))) (by simp[results,results153,go_sem,de,y];rfl) rfl ⟨by rw[A.out],z.out.put4 (ah _) _ _ _ _⟩
    ·have ag: ¬(1:Int)<n:=Qa
     by_cases hV:2147483647<v
     ·have A:=G (show jv (c::m)= .error 2 by rw[w.out,u,if_neg Qe,if_pos (.inr (.inr (H hV)))]);clear u;clear w M F H I;go_enter func153,ntmps153
      go_wp2_with (first
       |(go_at_call 200;refine(V.out _).mono ?_;rintro e w' ⟨rfl,rfl⟩)
       |(go_at_call 201;refine K.out.mono ?_;rintro e Z ⟨⟨ad,rfl⟩,a⟩;have d:=G (X.out.ext a);have z:=G (R.out.trans a);clear a;have ac:=d.out.cell;have ab:=d.out.frozen)
       |(go_at_call 107;refine(J.out _).mono ?_;rintro e w' ⟨rfl,rfl⟩))
      have y:=(d.out.put4 (.int .i64 0) (.string ⟨#[]⟩) (.int .i64 0) (.int .i64 0)).cell;exact bodyPost_ret (v:=de (.error 2)) (by simp[results,results153,go_sem,de,y]) rfl ⟨by rw[A.out],z.out.put4 (ah _) _ _ _ _⟩
     ·have A:=G (show jv (c::m)= .ok ((3,[],v),n) by rw[w.out,u,if_neg Qe,if_neg (by rintro(o|o|o);exact hA o;exact(λo:1<n/\c=48=>hB o.1) o;exact I Qa o),F Qa]);clear u;clear w M F H I;go_enter func153,ntmps153
      go_wp2_with (first
       |(go_at_call 200;refine(V.out _).mono ?_;rintro e w' ⟨rfl,rfl⟩)
       |(go_at_call 201;refine K.out.mono ?_;rintro e Z ⟨⟨ad,rfl⟩,a⟩;have d:=G (X.out.ext a);have z:=G (R.out.trans a);clear a;have ac:=d.out.cell;have ab:=d.out.frozen)
       |(go_at_call 107;refine(J.out _).mono ?_;rintro e w' ⟨rfl,rfl⟩))
      have y:=(d.out.put4 (.int .i64 3) (.string ⟨#[]⟩) (.int .i64 v) (.int .i64 0)).cell;exact bodyPost_ret (v:=de (.ok ((3,[],v),n))) (by simp[results,results153,go_sem,de,y];rfl) rfl ⟨by rw[A.out],z.out.put4 (ah _) _ _ _ _⟩
 ·have az: ¬(n:Int)<m.length+1:=Qa
  have u:=Dx c m aA hlt;have J:=G (nA 0);by_cases hA:10<n
  ·have ai:(10:Int)<n:=Qa
   have A:=G (show jv (c::m)= .error 2 by rw[w.out,u,if_neg Qe,if_pos (.inl hA)]);clear u;clear w M F H I;go_enter func153,ntmps153
   go_wp2_with (first
    |(go_at_call 200;refine(V.out _).mono ?_;rintro e w' ⟨rfl,rfl⟩)
    |(go_at_call 201;refine K.out.mono ?_;rintro e Z ⟨⟨ad,rfl⟩,a⟩;have d:=G (X.out.ext a);have z:=G (R.out.trans a);clear a;have ac:=d.out.cell;have ab:=d.out.frozen)
    |(go_at_call 107;refine(J.out _).mono ?_;rintro e w' ⟨rfl,rfl⟩))
   have y:=(d.out.put4 (.int .i64 0) (.string ⟨#[]⟩) (.int .i64 0) (.int .i64 0)).cell;exact bodyPost_ret (v:=de (.error 2)) (by simp[results,results153,go_sem,de,y]) rfl ⟨by rw[A.out],z.out.put4 (ah _) _ _ _ _⟩
  ·have ai: ¬(10:Int)<n:=Qa
   by_cases hB:1<n
   ·have ag:(1:Int)<n:=Qa
    by_cases hC:c=48
    ·have af:((c.toNat:Int)==48)=true:=by rw[hC];rfl
     have A:=G (show jv (c::m)= .error 2 by rw[w.out,u,if_neg Qe,if_pos (.inr (.inl ⟨hB,hC⟩))]);clear u hC;clear w M F H I;go_enter func153,ntmps153
     go_wp2_with (first
      |(go_at_call 200;refine(V.out _).mono ?_;rintro e w' ⟨rfl,rfl⟩)
      |(go_at_call 201;refine K.out.mono ?_;rintro e Z ⟨⟨ad,rfl⟩,a⟩;have d:=G (X.out.ext a);have z:=G (R.out.trans a);clear a;have ac:=d.out.cell;have ab:=d.out.frozen)
      |(go_at_call 107;refine(J.out _).mono ?_;rintro e w' ⟨rfl,rfl⟩))
     have y:=(d.out.put4 (.int .i64 0) (.string ⟨#[]⟩) (.int .i64 0) (.int .i64 0)).cell;exact bodyPost_ret (v:=de (.error 2)) (by simp[results,results153,go_sem,de,y]) rfl ⟨by rw[A.out],z.out.put4 (ah _) _ _ _ _⟩
    ·have af:((c.toNat:Int)==48)=false:=(ep c 48 Qa).trans (Qn.2 hC);by_cases hV:2147483647<v
     ·have A:=G (show jv (c::m)= .error 2 by rw[w.out,u,if_neg Qe,if_pos (.inr (.inr (H hV)))]);clear u;clear hC;clear w M F H I;go_enter func153,ntmps153
      go_wp2_with (first
       |(go_at_call 200;refine(V.out _).mono ?_;rintro e w' ⟨rfl,rfl⟩)
       |(go_at_call 201;refine K.out.mono ?_;rintro e Z ⟨⟨ad,rfl⟩,a⟩;have d:=G (X.out.ext a);have z:=G (R.out.trans a);clear a;have ac:=d.out.cell;have ab:=d.out.frozen)
       |(go_at_call 107;refine(J.out _).mono ?_;rintro e w' ⟨rfl,rfl⟩))
      have y:=(d.out.put4 (.int .i64 0) (.string ⟨#[]⟩) (.int .i64 0) (.int .i64 0)).cell;exact bodyPost_ret (v:=de (.error 2)) (by simp[results,results153,go_sem,de,y]) rfl ⟨by rw[A.out],z.out.put4 (ah _) _ _ _ _⟩
     ·have A:=G (show jv (c::m)= .ok ((3,[],v),n) by rw[w.out,u,if_neg Qe,if_neg (by rintro(o|o|o);exact hA o;exact(λo:1<n/\c=48=>hC o.2) o;exact I Qa o),F Qa]);clear u;clear hC;clear w M F H I;go_enter func153,ntmps153
      go_wp2_with (first
       |(go_at_call 200;refine(V.out _).mono ?_;rintro e w' ⟨rfl,rfl⟩)
       |(go_at_call 201;refine K.out.mono ?_;rintro e Z ⟨⟨ad,rfl⟩,a⟩;have d:=G (X.out.ext a);have z:=G (R.out.trans a);clear a;have ac:=d.out.cell;have ab:=d.out.frozen)
       |(go_at_call 107;refine(J.out _).mono ?_;rintro e w' ⟨rfl,rfl⟩))
      have y:=(d.out.put4 (.int .i64 3) (.string ⟨#[]⟩) (.int .i64 v) (.int .i64 0)).cell;exact bodyPost_ret (v:=de (.ok ((3,[],v),n))) (by simp[results,results153,go_sem,de,y];rfl) rfl ⟨by rw[A.out],z.out.put4 (ah _) _ _ _ _⟩
   ·have ag: ¬(1:Int)<n:=Qa
    by_cases hV:2147483647<v
    ·have A:=G (show jv (c::m)= .error 2 by rw[w.out,u,if_neg Qe,if_pos (.inr (.inr (H hV)))]);clear u;clear w M F H I;go_enter func153,ntmps153
     go_wp2_with (first
      |(go_at_call 200;refine(V.out _).mono ?_;rintro e w' ⟨rfl,rfl⟩)
      |(go_at_call 201;refine K.out.mono ?_;rintro e Z ⟨⟨ad,rfl⟩,a⟩;have d:=G (X.out.ext a);have z:=G (R.out.trans a);clear a;have ac:=d.out.cell;have ab:=d.out.frozen)
      |(go_at_call 107;refine(J.out _).mono ?_;rintro e w' ⟨rfl,rfl⟩))
     have y:=(d.out.put4 (.int .i64 0) (.string ⟨#[]⟩) (.int .i64 0) (.int .i64 0)).cell;exact bodyPost_ret (v:=de (.error 2)) (by simp[results,results153,go_sem,de,y]) rfl ⟨by rw[A.out],z.out.put4 (ah _) _ _ _ _⟩
    ·have A:=G (show jv (c::m)= .ok ((3,[],v),n) by rw[w.out,u,if_neg Qe,if_neg (by rintro(o|o|o);exact hA o;exact(λo:1<n/\c=48=>hB o.1) o;exact I Qa o),F Qa]);clear u;clear w M F H I;go_enter func153,ntmps153
     go_wp2_with (first
      |(go_at_call 200;refine(V.out _).mono ?_;rintro e w' ⟨rfl,rfl⟩)
      |(go_at_call 201;refine K.out.mono ?_;rintro e Z ⟨⟨ad,rfl⟩,a⟩;have d:=G (X.out.ext a);have z:=G (R.out.trans a);clear a;have ac:=d.out.cell;have ab:=d.out.frozen)
      |(go_at_call 107;refine(J.out _).mono ?_;rintro e w' ⟨rfl,rfl⟩))
     have y:=(d.out.put4 (.int .i64 3) (.string ⟨#[]⟩) (.int .i64 v) (.int .i64 0)).cell;exact bodyPost_ret (v:=de (.ok ((3,[],v),n))) (by simp[results,results153,go_sem,de,y];rfl) rfl ⟨by rw[A.out],z.out.put4 (ah _) _ _ _ _⟩
theorem jp (r:vq): ∃k s v n e,de r= .tuple #[.agg #[.int .i64 k, .string s, .int .i64 v, .int .i64 0], .int .i64 n, .int .i64 e]:=by
 cases r with
 |ok x=>exact⟨_,_,_,_,_,rfl⟩
 |error e=>exact⟨_,_,_,_,_,rfl⟩
theorem zW (c:UInt8) (m:List UInt8):lz (c::m)=if mo c then kS (c::m)else if fF c then jv (c::m)else if c=39 then jT (c::m)else if c=34 then j8 (c::m)else jO (c::m):=rfl
theorem yd (c:UInt8) (m:List UInt8) (ac:(c::m).length<=100000) (y:World) (M:EZ y):Calls prog 96 #[.string (ak (c::m))] y λe w'=>e= .returned (de (lz (c::m)))/\au y w':=by
 have ad:(ak (c::m)).size=m.length+1:=by rw[a7];rfl
 have aj:0<(ak (c::m)).size:=by rw[ad];omega
 have ai:(ak (c::m))[0]=c:=rfl;have ag:m.length<=99999:=by simpa using ac
 have J:=G (mP c);have K:=G (oH c);have R:=G (aa y (.cells #[.int .i64 0, .string ⟨#[]⟩, .int .i64 0, .int .i64 0] 188));have V:=G (aq y 188 #[.int .i64 0, .string ⟨#[]⟩, .int .i64 0, .int .i64 0]);have z:=G (zW c m)
 cases hL:mo c with
 |true=>
  rw[hL]at J;have I:=G (show lz (c::m)=kS (c::m) by rw[z.out,hL,if_pos rfl]);obtain⟨k,s,v,n,e,a⟩:=jp (kS (c::m));have w:=G (zK (c::m) ac (y.alloc (.cells #[.int .i64 0, .string ⟨#[]⟩, .int .i64 0, .int .i64 0] 188)));rw[a]at w;have H:=G a;clear hL z a M;go_enter func96,ntmps96
  go_wp2_with (first
   |(go_at_call 108;refine(J.out _).mono ?_;rintro u w' ⟨rfl,rfl⟩)
   |(go_at_call 152;refine(K.out _).mono ?_;rintro u w' ⟨rfl,rfl⟩)
   |(go_at_call 151;refine w.out.mono ?_;rintro u X ⟨rfl,d⟩;have o:=G (V.out.ext d);have F:=G (R.out.trans d);clear d;have ab:=o.out.cell;have Z:=o.out.frozen))
  have A:=(o.out.put4 (.int .i64 k) (.string s) (.int .i64 v) (.int .i64 0)).cell;exact bodyPost_ret (v:= .tuple #[.agg #[.int .i64 k, .string s, .int .i64 v, .int .i64 0], .int .i64 n, .int .i64 e]) (by simp[results,results96,go_sem,A]) rfl ⟨by rw[I.out,H.out],F.out.put4 (ah _) _ _ _ _⟩
 |false=>
  rw[hL]at J
  cases hD:fF c with
  |true=>
   rw[hD]at K;have I:=G (show lz (c::m)=jv (c::m) by rw[z.out,hL,if_neg Qe,hD,if_pos rfl]);obtain⟨k,s,v,n,e,a⟩:=jp (jv (c::m));have w:=G (wj c m hD ac (y.alloc (.cells #[.int .i64 0, .string ⟨#[]⟩, .int .i64 0, .int .i64 0] 188)) (M.ext R.out));rw[a]at w;have H:=G a;clear hL hD z a M;go_enter func96,ntmps96
   go_wp2_with (first
    |(go_at_call 108;refine(J.out _).mono ?_;rintro u w' ⟨rfl,rfl⟩)
    |(go_at_call 152;refine(K.out _).mono ?_;rintro u w' ⟨rfl,rfl⟩)
    |(go_at_call 153;refine w.out.mono ?_;rintro u X ⟨rfl,d⟩;have o:=G (V.out.ext d);have F:=G (R.out.trans d);clear d;have ab:=o.out.cell;have Z:=o.out.frozen))
   have A:=(o.out.put4 (.int .i64 k) (.string s) (.int .i64 v) (.int .i64 0)).cell;exact bodyPost_ret (v:= .tuple #[.agg #[.int .i64 k, .string s, .int .i64 v, .int .i64 0], .int .i64 n, .int .i64 e]) (by simp[results,results96,go_sem,A]) rfl ⟨by rw[I.out,H.out],F.out.put4 (ah _) _ _ _ _⟩
  |false=>
   rw[hD]at K;by_cases h39:c=39
   ·have I:=G (show lz (c::m)=jT (c::m) by rw[z.out,hL,if_neg Qe,hD,if_neg Qe,if_pos h39]);obtain⟨k,s,v,n,e,a⟩:=jp (jT (c::m));have w:=G (Ce c m Qa (y.alloc (.cells #[.int .i64 0, .string ⟨#[]⟩, .int .i64 0, .int .i64 0] 188)));rw[a]at w;have H:=G a;have ae:((c.toNat:Int)==39)=true:=by rw[h39];rfl
    clear hL hD z a M h39;go_enter func96,ntmps96
    go_wp2_with (first
     |(go_at_call 108;refine(J.out _).mono ?_;rintro u w' ⟨rfl,rfl⟩)
     |(go_at_call 152;refine(K.out _).mono ?_;rintro u w' ⟨rfl,rfl⟩)
     |(go_at_call 154;refine w.out.mono ?_;rintro u X ⟨rfl,d⟩;have o:=G (V.out.ext d);have F:=G (R.out.trans d);clear d;have ab:=o.out.cell;have Z:=o.out.frozen))
    have A:=(o.out.put4 (.int .i64 k) (.string s) (.int .i64 v) (.int .i64 0)).cell;exact bodyPost_ret (v:= .tuple #[.agg #[.int .i64 k, .string s, .int .i64 v, .int .i64 0], .int .i64 n, .int .i64 e]) (by simp[results,results96,go_sem,A]) rfl ⟨by rw[I.out,H.out],F.out.put4 (ah _) _ _ _ _⟩
   ·have ae:((c.toNat:Int)==39)=false:=(ep c 39 Qa).trans (Qn.2 h39);by_cases h34:c=34
    ·have I:=G (show lz (c::m)=j8 (c::m) by rw[z.out,hL,if_neg Qe,hD,if_neg Qe,if_neg h39,if_pos h34]);obtain⟨k,s,v,n,e,a⟩:=jp (j8 (c::m));have w:=G (zZ c m Qa (y.alloc (.cells #[.int .i64 0, .string ⟨#[]⟩, .int .i64 0, .int .i64 0] 188)));rw[a]at w;have H:=G a;have af:((c.toNat:Int)==34)=true:=by rw[h34];rfl
     clear hL hD z a M h39 h34;go_enter func96,ntmps96
     go_wp2_with (first
      |(go_at_call 108;refine(J.out _).mono ?_;rintro u w' ⟨rfl,rfl⟩)
      |(go_at_call 152;refine(K.out _).mono ?_;rintro u w' ⟨rfl,rfl⟩)
      |(go_at_call 155;refine w.out.mono ?_;rintro u X ⟨rfl,d⟩;have o:=G (V.out.ext d);have F:=G (R.out.trans d);clear d;have ab:=o.out.cell;have Z:=o.out.frozen))
     have A:=(o.out.put4 (.int .i64 k) (.string s) (.int .i64 v) (.int .i64 0)).cell;exact bodyPost_ret (v:= .tuple #[.agg #[.int .i64 k, .string s, .int .i64 v, .int .i64 0], .int .i64 n, .int .i64 e]) (by simp[results,results96,go_sem,A]) rfl ⟨by rw[I.out,H.out],F.out.put4 (ah _) _ _ _ _⟩
    ·have I:=G (show lz (c::m)=jO (c::m) by rw[z.out,hL,if_neg Qe,hD,if_neg Qe,if_neg h39,if_neg h34]);obtain⟨k,s,v,n,e,a⟩:=jp (jO (c::m));have w:=G (Bh c m Qa (y.alloc (.cells #[.int .i64 0, .string ⟨#[]⟩, .int .i64 0, .int .i64 0] 188)));rw[a]at w;have H:=G a;have af:((c.toNat:Int)==34)=false:=(ep c 34 Qa).trans (Qn.2 h34);clear hL hD z a M h39 h34;go_enter func96,ntmps96
     go_wp2_with (first
      |(go_at_call 108;refine(J.out _).mono ?_;rintro u w' ⟨rfl,rfl⟩)
      |(go_at_call 152;refine(K.out _).mono ?_;rintro u w' ⟨rfl,rfl⟩)
      |(go_at_call 156;refine w.out.mono ?_;rintro u X ⟨rfl,d⟩;have o:=G (V.out.ext d);have F:=G (R.out.trans d);clear d;have ab:=o.out.cell;have Z:=o.out.frozen))
     have A:=(o.out.put4 (.int .i64 k) (.string s) (.int .i64 v) (.int .i64 0)).cell;exact bodyPost_ret (v:= .tuple #[.agg #[.int .i64 k, .string s, .int .i64 v, .int .i64 0], .int .i64 n, .int .i64 e]) (by simp[results,results96,go_sem,A]) rfl ⟨by rw[I.out,H.out],F.out.put4 (ah _) _ _ _ _⟩
def gE (t:co):List Value:=[.int .i64 t.k, .string (ak t.t), .int .i64 t.v, .int .i64 t.f]
def lA (ts:List co):List Value:=ts.flatMap gE
theorem yf (a b:List co):lA (a++b)=lA a++lA b:=by simp[lA]
def iM (w:World) (base:Nat) (e:TypeId) (v:Value) (ts:List co):Prop:=w.ownsRow base e 4 v ts.length (lA ts)
theorem iM.nil_ (a:World) (base:Nat) (e:TypeId):iM a base e (.slice none 0 0) []:=World.ownsRow_nil a base e 4
theorem iM.form {h:World} {base:Nat} {e:TypeId} {v:Value} {a:List co} (u:iM h base e v a): ∃w d,v= .slice w a.length d:=by
 rcases u.2 with⟨rfl,o⟩|⟨g,d,cur,rfl,_⟩
 ·exact⟨none,0,by rw[o]⟩
 ·exact⟨_,_,rfl⟩
theorem iM.grown {a w':World} {base:Nat} {e:TypeId} {v:Value} {d:List co} {row:Option Nat} (u:iM a base e v d) (o:a.grownBy w' row) (h:v.ownBlock=none\/v.ownBlock≠row):iM w' base e v d:=World.ownsRow.kept u o h
theorem iM.ext {a w':World} {base:Nat} {e:TypeId} {v:Value} {d:List co} (o:iM a base e v d) (h:au a w'):iM w' base e v d:=o.grown (h.grownBy none) (by cases v.ownBlock<;>simp)
structure GZ (P:Program) (t e:TypeId):Prop where
 under:P.underlying t=some (.slice e)
 info:(P.info? e).map (λi=>(i.zero,i.size,i.bytes))=some (some (.agg #[.int .i64 0, .string ⟨#[]⟩, .int .i64 0, .int .i64 0]),4,40)
theorem ud {P:Program} {w:World} {t e:TypeId} (u:GZ P t e) (ty:TypeId) (base:Nat) (v:Value) (a:List co) (G:iM w base e v a) (g:Nat) (x:co)
  (J:w.heap[g]? =some (.cells #[.int .i64 x.k, .string (ak x.t), .int .i64 x.v, .int .i64 x.f] e (0,0))) (X:a.length<=1073741824) (K:base<=w.heap.size):
  ∃d cap' w',(Builtin.append_ #[t,t] ty #[v, .slice (some ⟨g,0,none⟩) 1 1]).run P w= .ok (.slice d (a.length+1) cap') w'/\iM w' base e (.slice d (a.length+1) cap') (a++[x])/\w.grownBy w' v.ownBlock/\
   (Value.ownBlock (.slice d (a.length+1) cap')=v.ownBlock\/Value.ownBlock (.slice d (a.length+1) cap')=some w.heap.size):=by
 obtain⟨i,I,F,A,z⟩:=info_parts u.info;obtain⟨v',w',o,R,M,_,y⟩:=run_append_own_at (P:=P) w base t ty e i (.agg #[.int .i64 0, .string ⟨#[]⟩, .int .i64 0, .int .i64 0]) 4 40 u.under I F A z rfl Qd v a.length (lA a) G ⟨g,0,none⟩ 1 1 (gE x) rfl
  (λj V H=>by
   rw[Addr.add_lit,aE,cell_of_row w g j _ e (0,0) J]
   simpa[gE]using H) (by simp[gE,Value.oneCell']) Qh Qa K
 have h:iM w' base e v' (a++[x]):=by
  unfold iM;rw[ac,yf];simpa[lA]using R
 obtain⟨d,cap',rfl⟩:=h.form;rw[ac]at h o y;exact⟨d,cap',w',o,h,M,y⟩
theorem pQ {P:Program} {a:World} {ops:Array Oper} {rest:List Oper} {u:Oper} {w:Act} {Q:Exit->Act->World->Prop} {t e:TypeId} (M:GZ P t e) (H:u.guard=none) (s x:Operand)
  (G:u.op= .call {callee:= .builtin .append,args:= #[s,x],argTypes:= #[t,t]}) (base:Nat) (v:Value) (d:List co) (z:w.eval s=v) (F:iM a base e v d)
  (g:Nat) (h:co) (y:w.eval x= .slice (some ⟨g,0,none⟩) 1 1) (I:a.heap[g]? =some (.cells #[.int .i64 h.k, .string (ak h.t), .int .i64 h.v, .int .i64 h.f] e (0,0))) (K:d.length<=1073741824) (J:base<=a.heap.size)
  (aa: ∀o cap' w',iM w' base e (.slice o (d.length+1) cap') (d++[h])->a.grownBy w' v.ownBlock->
   (Value.ownBlock (.slice o (d.length+1) cap')=v.ownBlock\/Value.ownBlock (.slice o (d.length+1) cap')=some a.heap.size)->wpList P ops Q rest (w.put u.dst (.slice o (d.length+1) cap')) w'):
  wpList P ops Q (u::rest) w a:=by
 obtain⟨o,cap',w',A,Z,X,V⟩:=ud (P:=P) (w:=a) M u.type base v d F g h I K J;refine wpList_plain H λab R=> ?_;unfold Oper.wp execOp;simp only[G,resolve,invoke,builtin,Sem.run_bind,Sem.run_pure,Result.andThen_ok,dt,b7,du,z,y,A];exact R _ _ (aa o cap' w' Z X V)
theorem tt:GZ prog 116 188:=⟨underlying116,by kernel_rfl⟩
theorem uA: ∀(f:Nat) (m:List UInt8) (t:List UInt8) (n:Nat),pD f m=some (t,n)->1<=n/\n<=m.length
 |0,m,t,n,h=>by cases h
 |f+1,[],t,n,h=>by cases h
 |f+1,c::r,t,n,h=>by
  simp only[pD]at h;split at h
  ·cases h;exact⟨ah _,by simp⟩
  ·split at h
   ·cases h
   ·obtain⟨⟨a,d⟩,u,o⟩:=Option.map_eq_some_iff.1 h
    cases o;have:=uA f _ a d u;have w:=lP (c::r);rw[bH]at this;omega
theorem oE {l:List UInt8} {c:UInt8} (a:l.head? =some c):1<=l.length:=by cases l<;>simp at a⊢
theorem pU {c:UInt8} {r:List UInt8} {x:Int×List UInt8×Int} {n:Nat} (a:lz (c::r)= .ok (x,n)):1<=n/\n<=(c::r).length:=by
 have o:mo c=true->1<=cJ fV (c::r):=λa=>by simp[cJ,fV,a]
 have A:fF c=true->1<=cJ fF (c::r):=λa=>by simp[cJ,a]
 have h:=jr fV (c::r);have z:=jr fF (c::r);simp only[lz]at a;split at a
 ·rename_i u;unfold kS at a;split at a
  ·cases a;exact⟨o u,h⟩
  ·split at a
   ·cases a
   ·cases a;exact⟨o u,h⟩
 ·split at a
  ·rename_i F;unfold jv at a;split at a
   ·cases a
   ·split at a
    ·cases a
    ·cases a;exact⟨A F,z⟩
  ·split at a
   ·unfold jT at a;split at a
    ·cases a
    ·rename_i d
     cases a;have G:((c::r).drop ((cW ((c::r).drop 1)).2+1)).head? =some 39:=by
      refine Classical.byContradiction λw=>d (.inr (.inr w))
     have:=oE G;rw[bH]at this;omega
   ·split at a
    ·unfold j8 at a;split at a
     ·cases a
     ·rename_i t I y;split at a
      ·cases a
      ·cases a;have:=uA _ _ _ _ y;rw[bH]at this;omega
    ·unfold jO at a;split at a
     ·rename_i d
      cases a;have: ∀t∈two,t.length=2:=Qd
      have H:((c::r).take 2).length=2:=this _ (List.contains_iff_mem.1 d);rw[bC]at H;omega
     ·split at a
      ·cases a;exact⟨ah _,by simp⟩
      ·cases a
theorem zX {c:UInt8} {r:List UInt8} {e:Int} (a:lz (c::r)= .error e):e=3\/e=2\/e=6:=by
 simp only[lz]at a;unfold kS jv jT j8 jO at a;repeat' split at a
 all_goals cases a
 all_goals first|exact .inl rfl|exact .inr (.inl rfl)|exact .inr (.inr rfl)
def mz (ts:List co):Except (Nat×Int) (List co)->Except (Nat×Int) (List co)
 | .error e=> .error e
 | .ok us=> .ok (ts++us)
theorem vG (l:List UInt8):pA l=mz [] (iG (l.length+1) (l.drop 0) 0):=by
 unfold pA;rw[aw]
 cases iG (l.length+1) l 0<;>simp[mz]
theorem zU {l:List UInt8} {f p:Nat} {a:List co} (h:pA l=mz a (iG (f+1) (l.drop p) p)) (d:l.length<=p+dq false (l.drop p)):pA l= .ok a:=by
 rw[h];have:(l.drop p).drop (dq false (l.drop p))=[]:=by
  rw[d6];exact aK d
 simp only[iG,this,mz,eP]
theorem zS {l:List UInt8} {f p q:Nat} {d:List co} {c:UInt8} {r:List UInt8} {e:Int} (u:pA l=mz d (iG (f+1) (l.drop p) p)) (a:q=p+dq false (l.drop p)) (o:l.drop q=c::r) (h:lz (c::r)= .error e):pA l= .error (q,e):=by
 rw[u];have:(l.drop p).drop (dq false (l.drop p))=c::r:=by
  rw[d6,<-a,o]
 simp only[iG,this,h,mz,a]
theorem yb {l:List UInt8} {f p q:Nat} {a:List co} {c:UInt8} {r:List UInt8} {k:Int} {t:List UInt8} {v:Int} {n:Nat} (y:pA l=mz a (iG (f+1) (l.drop p) p)) (d:q=p+dq false (l.drop p)) (h:l.drop q=c::r)
  (o:lz (c::r)= .ok ((k,t,v),n)):pA l=mz (a++[⟨k,t,v,(q:Nat)⟩]) (iG f (l.drop (q+n)) (q+n)):=by
 rw[y];have w:(l.drop p).drop (dq false (l.drop p))=c::r:=by
  rw[d6,<-d,h]
 have u:l.drop (q+n)=(c::r).drop n:=by rw[<-h,d6]
 rw[u];simp only[iG,w,o,<-d]
 cases iG f ((c::r).drop n) (q+n)<;>simp[mz]
def xS (ty:TypeId) (base:Nat) (r:List co×Int×Int) (e:Ending) (w':World):Prop:=
 ∃A cap,e= .returned (.tuple #[.slice A r.1.length cap, .int .i64 r.2.1, .int .i64 r.2.2])/\iM w' base ty (.slice A r.1.length cap) r.1
theorem rr (l:List UInt8) (a:4000<l.length):gY l=([],4000,6):=by unfold gY;rw[if_pos a]
theorem zV (l:List UInt8) (a:List co) (h: ¬4000<l.length) (d:pA l= .ok a):gY l=(a,0,0):=by unfold gY;rw[if_neg h,d]
theorem yc (l:List UInt8) (p:Nat) (e:Int) (d: ¬4000<l.length) (a:pA l= .error (p,e)):gY l=([],(p:Int),e):=by unfold gY;rw[if_neg d,a]
theorem C1 (a:World) (e:TypeId) (x:co):((a.alloc (.cells #[.int .i64 x.k, .string (ak x.t), .int .i64 x.v, .int .i64 x.f] e)).alloc (.cells #[.int .i64 x.k, .string (ak x.t), .int .i64 x.v, .int .i64 x.f] e)).heap[a.heap.size+1]? =some (.cells #[.int .i64 x.k, .string (ak x.t), .int .i64 x.v, .int .i64 x.f] e (0,0)):=by
 have:=heap_alloc_new (a.alloc (.cells #[.int .i64 x.k, .string (ak x.t), .int .i64 x.v, .int .i64 x.f] e)) (.cells #[.int .i64 x.k, .string (ak x.t), .int .i64 x.v, .int .i64 x.f] e);rwa [World.size_alloc]at this
theorem vH (l:List UInt8) (aV:l.length<=100000) (a:World) (Z:EZ a):Calls prog 46 #[.string (ak l)] a λe w'=>xS 188 a.heap.size (gY l) e w'/\au a w':=by
 have ab:(ak l).size=l.length:=a7 l;have ag:=G Z;clear Z;have aC:=G (rr l);have aA:=G (zV l);have aB:=G (yc l);by_cases hbig:4000<l.length
 ·have ax:(4000:Int)<l.length:=Qa
  go_enter func46,ntmps46;go_wp2_with fail;exact bodyPost_ret (v:= .tuple #[.slice none 0 0, .int .i64 4000, .int .i64 6]) (by simp[results,results46,go_sem]) rfl ⟨by rw[aC.out hbig];exact⟨none,0,rfl,iM.nil_ _ _ _⟩,aG _⟩
 ·have ax: ¬(4000:Int)<l.length:=Qa
  go_enter func46,ntmps46;go_wp2_with fail
  go_loopw [2,3] (λam M wr=> ∃(B:Option Addr) (w:Nat) (d:List co) (p f:Nat),am= .slice B d.length w/\iM wr a.heap.size 188 (.slice B d.length w) d/\M= .int .i64 (p:Int)/\p<=l.length/\d.length<=p/\l.length+1<=f+p/\
   Hid (pA l=mz d (iG f (l.drop p) p))/\au a wr) (λ_ M _=>l.length+1-(intOf M).toNat)
  case atStart=>exact⟨none,0,[],0,l.length+1,rfl,iM.nil_ _ _ _,rfl,aD _,ah _,by omega,G (vG l),aG _⟩
  case round=>
   obtain⟨B,w,d,p,f,rfl,ad,rfl,ap,aL,aW,A,aa⟩:=hrel;obtain⟨f,rfl⟩: ∃g,f=g+1:=⟨f-1,by omega⟩
   have aj:=G ad;have I:=G aa;clear ad aa;have aQ:p<=(ak l).size:=by rw[ab];exact ap
   have aX:(ak l).extract p l.length=ak (l.drop p):=by
    have:=fy l p l.length;rw[bO (ah _)]at this;exact this
   have X:=G (λa=>zq (l.drop p) (by rw[bH];omega) a);have aM:p+dq false (l.drop p)<=l.length:=by have:=lG false (l.drop p);rw[bH]at this;omega
   obtain⟨q,H⟩: ∃q,q=p+dq false (l.drop p):=⟨_,rfl⟩
   have aP:(p:Int)+(dq false (l.drop p):Int)=(q:Int):=Qa
   by_cases hend:l.length<=q
   ·have J:=G (zU A.out Qa);have aO:q=l.length:=Qa
    have av:(l.length:Int)<=q:=Qa
    generalize dq false (l.drop p)=s at*;clear H A;go_wp2_with (go_at_call 95;refine(X.out _).mono ?_;rintro e w' ⟨rfl,rfl⟩);exact bodyPost_ret (v:= .tuple #[.slice B d.length w, .int .i64 0, .int .i64 0]) (by simp[results,results46,go_sem]) rfl ⟨by rw[aA.out _ hbig J.out];exact⟨B,w,rfl,aj.out⟩,I.out⟩
   ·have av: ¬(l.length:Int)<=q:=Qa
    have aN:q<=(ak l).size:=by rw[ab];omega
    have ar:(ak l).extract q l.length=ak (l.drop q):=by
     have:=fy l q l.length;rw[bO (ah _)]at this;exact this
    obtain⟨c,r,o⟩: ∃c r,l.drop q=c::r:=by
     cases V:l.drop q with
     |nil=>have:=congrArg List.length V;rw[bH]at this;simp at this;omega
     |cons c r=>exact⟨c,r,rfl⟩
    have aU:(c::r).length=l.length-q:=by rw[<-o,bH]
    rw[o]at ar;have z:=G (λa V=>yd c r Qa a V)
    cases ht:lz (c::r)with
    |error e=>
     have J:=G (zS A.out H o ht);have aw:e=3\/e=2\/e=6:=zX ht;rw[ht]at z;have F:de (.error e)= .tuple #[.agg #[.int .i64 0, .string ⟨#[]⟩, .int .i64 0, .int .i64 0], .int .i64 0, .int .i64 e]:=rfl;rw[F]at z;have aq: ¬e=0:=Qa
     have aR:(e==0)=false:=by simp[aq]
     generalize dq false (l.drop p)=s at*;clear H A ht o F aw
     go_wp2_with (first
      |(go_at_call 95;refine(X.out _).mono ?_;rintro e w' ⟨rfl,rfl⟩)
      |(go_at_call 96;refine(z.out _ (ag.out.ext I.out)).mono ?_;rintro ay K ⟨rfl,u⟩;have aI:=G (I.out.trans u);clear u))
     exact bodyPost_ret (v:= .tuple #[.slice none 0 0, .int .i64 q, .int .i64 e]) (by simp[results,results46,go_sem]) rfl ⟨by rw[aB.out _ _ hbig J.out];exact⟨none,0,rfl,iM.nil_ _ _ _⟩,aI.out.alloc' _⟩
    |ok y=>
     obtain⟨⟨k,t,v⟩,n⟩:=y;have J:=G (yb A.out H o ht);obtain⟨aT,aS⟩:=pU ht;rw[ht]at z;have F:de (.ok ((k,t,v),n))= .tuple #[.agg #[.int .i64 k, .string (ak t), .int .i64 v, .int .i64 0], .int .i64 (n:Int), .int .i64 0]:=rfl;rw[F]at z;generalize dq false (l.drop p)=s at*;clear H A ht o F
     go_wp2_with (first
      |(go_at_call 95;refine(X.out _).mono ?_;rintro e w' ⟨rfl,rfl⟩)
      |(go_at_call 96;refine(z.out _ (ag.out.ext I.out)).mono ?_;rintro ay K ⟨rfl,u⟩;have al:=G (I.out.trans ((u.alloc' (.cells #[.int .i64 k, .string (ak t), .int .i64 v, .int .i64 (q:Int)] 188)).alloc' (.cells #[.int .i64 k, .string (ak t), .int .i64 v, .int .i64 (q:Int)] 188)));have ai:=G (aj.out.ext ((u.alloc' (.cells #[.int .i64 k, .string (ak t), .int .i64 v, .int .i64 (q:Int)] 188)).alloc' (.cells #[.int .i64 k, .string (ak t), .int .i64 v, .int .i64 (q:Int)] 188)));have aH:=G (C1 K 188 ⟨k,t,v,(q:Int)⟩);clear u)
      |(at_builtin;refine pQ tt rfl _ _ rfl a.heap.size (.slice B d.length w) d rfl ai.out (K.heap.size+1) ⟨k,t,v,(q:Int)⟩ rfl aH.out Qa al.out.size ?_;intro aJ az aK ae af _;have aE:=G ae;have aF:=G af;clear ae af))
     go_roundw
     case rel=>
      have ao:=λk R=>(World.ownsRow.lt ai.out k R).1;have an:=al.out.grown aF.out (λk R=>by have:=ao k R;omega);refine⟨aJ,az,d++[⟨k,t,v,(q:Int)⟩],q+n,f,by rw[ac];rfl,?_,by go_num,by omega,by rw[ac];simp;omega,by omega,J,an⟩;rw[ac];exact aE.out
     case measure=>simp[intOf];omega
theorem eq (a b:List UInt8):ak a++ak b=ak (a++b):=by
 apply mt;simp[ak]
theorem au.of_eq_alloc {a w':World} {x:Obj} (d:a.alloc x=w'):au a w':=by
 rw[<-d];exact aa _ _
end
end Go.Proofs.YtoedmpgicdekmaaGreatDoor
