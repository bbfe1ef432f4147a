/- Parts of the proof. -/
import Derived.Test.YtddomeddabfinaaGreatDoorTt00
import Derived.Test.YtddomeddabfinaaGreatDoorTt02
import Derived.Test.YtddomeddabfinaaGreatDoorTt03
set_option maxRecDepth 100000
set_option maxHeartbeats 8000000
set_option linter.unusedVariables false
set_option linter.unusedSimpArgs false
set_option linter.unusedSectionVars false
namespace Go.Proofs.YtddomeddabfinaaGreatDoor
open IntKind(i64)
open Go.Proofs.Tryz
section
open Go.RowKit
theorem jw (l:List UInt8):(J l).data.toList=l:=by simp[J]
theorem pg (c:UInt8): ∀l:List UInt8,(Lib.indexByte l c= -1/\l.contains c=false)\/(0<=Lib.indexByte l c/\l.contains c=true)
 | []=> .inl ⟨rfl,rfl⟩
 |b::l=>by
  simp only[Lib.indexByte];by_cases h:b=c
  ·subst h;refine .inr ⟨by simp,by simp⟩
  ·have w:(b==c)=false:=Ql.2 h;have j:(c==b)=false:=Ql.2 λe=>h e.symm;rw[w];rcases pg c l with⟨o,a⟩|⟨o,a⟩
   ·refine .inl ⟨by simp[o],?_⟩;rw[gQ,j,a];rfl
   ·refine .inr ⟨?_,?_⟩
    ·have:(Lib.indexByte l c== -1)=false:=by rw[Ql];omega
     simp only[aT,if_false,this];omega
    ·rw[gQ,j,a];rfl
theorem tW: ∀l:List UInt8,Lib.indexByte l 10=if gg l<l.length then(gg l:Int)else-1
 | []=>rfl
 |b::l=>by
  by_cases h:b=10
  ·subst h;rfl
  ·have j:(b==10)=false:=Ql.2 h;have o:(b !=10)=true:=by simp[h]
   have a:=tW l;have e:gg (b::l)=gg l+1:=by simp[gg,cm,h]
   rw[e];simp only[Lib.indexByte];rw[j,a,if_neg Qd];by_cases hl:gg l<l.length
   ·rw[if_pos hl,if_neg Qd,if_pos (by rw[ah];omega)];rfl
   ·rw[if_neg hl,if_pos (show((-1:Int)== -1)=true from rfl),if_neg (by rw[ah];omega)]
theorem zg (c:UInt8):uB c=([32,9,10,13]:List UInt8).contains c:=by
 have: ∀n:Fin 256,uB (UInt8.ofNat n.val)=([32,9,10,13]:List UInt8).contains (UInt8.ofNat n.val):=Qj
 have a:=this ⟨c.toNat,c.toNat_lt⟩;rwa [fW]at a
theorem oh (l:List UInt8) (c:UInt8) (a:World):Calls prog 137 #[.string (J l),.int .u8 (c.toNat:Int)] a λe w'=>e=.returned (.int i64 (Lib.indexByte l c))/\a=w':=by
 refine(Tryz.strings_IndexByte (J l) (c.toNat:Int) a).mono ?_;rintro e w' ⟨rfl,rfl⟩;rw[jw];have:(c.toNat:Int).toNat.toUInt8=c:=by
  rw[eS];exact fW
 rw[this];exact⟨rfl,rfl⟩
theorem pO (l p:List UInt8) (a:World):Calls prog 138 #[.string (J l),.string (J p)] a λe w'=>e=.returned (.bool (p.isPrefixOf l))/\a=w':=by
 refine(Tryz.strings_HasPrefix (J l) (J p) a).mono ?_;rintro e w' ⟨rfl,rfl⟩;rw[jw,jw];exact⟨rfl,rfl⟩
theorem r_ (l:List UInt8):(([47,47]:List UInt8).isPrefixOf l=true/\ ∃r,l=47::47::r)\/(([47,47]:List UInt8).isPrefixOf l=false/\ ∀c r,l=c::r-> ¬(c=47/\r.head? =some 47)):=by
 match l with
 | []=>exact .inr ⟨rfl,λc r a=>by cases a⟩
 | [c]=>exact .inr ⟨by simp[List.isPrefixOf],λw r a=>by injection a with j h;subst h;simp⟩
 |c::d::r=>
  by_cases a:c=47/\d=47
  ·obtain⟨rfl,rfl⟩:=a;exact .inl ⟨by simp[List.isPrefixOf],r,rfl⟩
  ·refine .inr ⟨?_,λw z o=>by injection o with j h;subst j h;simpa using a⟩;simp only[List.isPrefixOf,iy];rw[Bool.and_eq_false_iff];by_cases hc:c=47
   ·right;exact Ql.2 λe=>a ⟨hc,e.symm⟩
   ·left;exact Ql.2 λe=>hc e.symm
theorem ye {l:List UInt8} {a:Nat} (j:a<l.length) (h:uB l[a]=true):cJ false (l.drop a)=cJ false (l.drop (a+1))+1:=by
 rw[aD j];simp only[cJ];rw[if_pos h]
theorem x_ {l:List UInt8} {a:Nat} (j:a<l.length) (o:uB l[a]=false) (h: ∀c r,l.drop a=c::r-> ¬(c=47/\r.head? =some 47)):cJ false (l.drop a)=0:=by
 have h:=h l[a] (l.drop (a+1)) (aD j);rw[aD j];simp only[cJ];rw[o,if_neg Qd,if_neg h]
theorem yX (l:List UInt8) (aw:l.length<=100000) (j:World):Calls prog 96 #[.string (J l)] j λe w'=>e=.returned (.int i64 (cJ false l))/\j=w':=by
 have au:=bm l;go_enter func96,ntmps96;go_wp2_with fail
 go_loop [3] (λab=> ∃a:Nat,ab=.int i64 a/\a<=l.length/\Hid (cJ false l=a+cJ false (l.drop a))) (λab=>l.length-(intOf ab).toNat)
 case atStart=>exact⟨0,rfl,aI _,O Qd⟩
 case round=>
  obtain⟨a,rfl,ax,K⟩:=hrel;by_cases hlt:a<l.length
  ·have al:a<(J l).size:=by rw[bm];exact hlt
   have ay:=nh l a al;have aj:(a:Int)<l.length:=Qa
   have af:=fK l a l.length;rw[bU]at af;have aq:=O (λac=>ye (l:=l) hlt ac);have ar:=O (λac ah=>x_ (l:=l) hlt ac ah);generalize l[a]'hlt=c at*;have X:=O (show Calls prog 137 #[.string ⟨#[32,9,10,13]⟩,.int .u8 (c.toNat:Int)] j λe w'=>e=.returned (.int i64 (Lib.indexByte [32,9,10,13] c))/\j=w' from oh [32,9,10,13] c j)
   cases hw:uB c with
   |true=>
    have an:0<=Lib.indexByte [32,9,10,13] c:=by
     rcases pg c [32,9,10,13]with⟨V,z⟩|⟨V,z⟩
     ·rw[<-zg,hw]at z;cases z
     ·exact V
    have o:=O (show cJ false l=((a+1:Nat))+cJ false (l.drop (a+1)) by rw[K.out,aq.out hw];omega);generalize Lib.indexByte [32,9,10,13] c=ag at*;clear hw af;go_wp2_with (go_at_call 137;refine X.out.mono ?_;rintro e w' ⟨rfl,rfl⟩)
    go_round
    case rel=>exact⟨a+1,by go_num,by omega,o⟩
    case measure=>simp[intOf];omega
   |false=>
    have an: ¬0<=Lib.indexByte [32,9,10,13] c:=by
     rcases pg c [32,9,10,13]with⟨V,z⟩|⟨V,z⟩
     ·omega
     ·rw[<-zg,hw]at z;cases z
    generalize Lib.indexByte [32,9,10,13] c=ag at*;have M:=O (show Calls prog 138 #[.string (J (l.drop a)),.string ⟨#[47,47]⟩] j λe w'=>e=.returned (.bool (([47,47]:List UInt8).isPrefixOf (l.drop a)))/\j=w' from pO (l.drop a) [47,47] j);rcases r_ (l.drop a)with⟨A,w⟩|⟨A,w⟩
    ·have R:=qy w;have G:=tW (l.drop a);have I:=O (show Calls prog 137 #[.string (J (l.drop a)),.int .u8 10] j λe w'=>e=.returned (.int i64 (Lib.indexByte (l.drop a) 10))/\j=w' from oh (l.drop a) 10 j);rw[A]at M;have ad:gg (l.drop a)<=(l.drop a).length:=jx _ _;have ae:(l.drop a).length=l.length-a:=bD;by_cases hn:gg (l.drop a)<(l.drop a).length
     ·rw[if_pos hn]at G;rw[G]at I;have o:=O (show cJ false l=((a+gg (l.drop a):Nat))+cJ false (l.drop (a+gg (l.drop a))) by rw[K.out,R,eI];omega);have av:1<=gg (l.drop a):=by
       obtain⟨r,ai⟩:=w;rw[ai];simp[gg,cm]
      have ak:a+gg (l.drop a)<=l.length:=Qa
      generalize gg (l.drop a)=n at*;clear hw A w R G hn ad ae
      go_wp2_with (first
       |(go_at_call 137;with_reducible (refine X.out.mono ?_);rintro e w' ⟨rfl,rfl⟩)
       |(go_at_call 138;refine M.out.mono ?_;rintro e w' ⟨rfl,rfl⟩)
       |(go_at_call 137;refine I.out.mono ?_;rintro e w' ⟨rfl,rfl⟩))
      go_round
      case rel=>exact⟨a+n,by go_num,ak,o⟩
      case measure=>simp[intOf];omega
     ·rw[if_neg hn]at G;rw[G]at I;have ap:a+gg (l.drop a)=l.length:=Qa
      have o:=O (show cJ false l=l.length by
       have ao:l.drop (a+gg (l.drop a))=[]:=aL Qa;rw[K.out,R,eI,ao];show a+(gg (l.drop a)+0)=l.length
       omega)
      clear ap;clear hw A w R G hn ad ae
      go_wp2_with (first
       |(go_at_call 137;with_reducible (refine X.out.mono ?_);rintro e w' ⟨rfl,rfl⟩)
       |(go_at_call 138;refine M.out.mono ?_;rintro e w' ⟨rfl,rfl⟩)
       |(go_at_call 137;refine I.out.mono ?_;rintro e w' ⟨rfl,rfl⟩))
      go_ret;exact⟨nq (by rw[o.out]),rfl⟩
    ·rw[A]at M;have o:=O (show cJ false l=a by rw[K.out,ar.out hw w];omega);clear hw A w
     go_wp2_with (first
      |(go_at_call 137;with_reducible (refine X.out.mono ?_);rintro e w' ⟨rfl,rfl⟩)
      |(go_at_call 138;refine M.out.mono ?_;rintro e w' ⟨rfl,rfl⟩))
     go_ret;exact⟨nq (by rw[o.out]),rfl⟩
  ·have o:=O (show cJ false l=a by rw[K.out,aL Qa];rfl);have aj: ¬(a:Int)<l.length:=Qa
   go_wp2_with fail;go_ret;exact⟨nq (by rw[o.out]),rfl⟩
def cX:ut->Value
 | .ok x=> .tuple #[.agg #[.int i64 x.1.1,.string (J x.1.2.1),.int i64 x.1.2.2,.int i64 0],.int i64 (x.2:Int),.int i64 0]
 | .error e=> .tuple #[.agg #[.int i64 0,.string ⟨#[]⟩,.int i64 0,.int i64 0],.int i64 0,.int i64 e]
theorem aU.put4 {h:World} {g:Nat} {t:TypeId} {z w o j:Value} (A:aU h g t #[z,w,o,j]) (a b c d:Value):aU ((((h.setCell ⟨g,0,none⟩ a).setCell ⟨g,1,none⟩ b).setCell ⟨g,2,none⟩ c).setCell ⟨g,3,none⟩ d) g t #[a,b,c,d]:=by
 have:=(((A.set 0 a).set 1 b).set 2 c).set 3 d;simpa using this
theorem az.put4 {w0 h:World} {g:Nat} (o:az w0 h) (a:w0.heap.size<=g) (j b c d:Value):az w0 ((((h.setCell ⟨g,0,none⟩ j).setCell ⟨g,1,none⟩ b).setCell ⟨g,2,none⟩ c).setCell ⟨g,3,none⟩ d):=(((o.set a j).set a b).set a c).set a d
theorem zi (l:List UInt8) (K:l.length<=100000) (a:World):Calls prog 139 #[.string (J l)] a λe w'=>e=.returned (cX (kh l))/\az a w':=by
 have V:=bm l;have X:=jx fd l;have M:=fK l 0 (cm fd l);simp only[au]at M;have z:=O (λa=>tq fd 107 nt (.inl rfl) l K a);have j:=O (show kh l=if sY (l.take (cm fd l))then .ok ((2,l.take (cm fd l),0),cm fd l)else if 14<cm fd l then .error 6 else .ok ((1,l.take (cm fd l),0),cm fd l)from rfl);have w:=O (λa=>oJ (l.take (cm fd l)) a);generalize G:cm fd l=n at*;generalize A:l.take n=x at*;clear G A
 cases hk:sY x with
 |true=>
  have o:=O (show kh l=.ok ((2,x,0),n) by rw[j.out,hk,if_pos rfl]);rw[hk]at w;clear hk j;go_enter func139,ntmps139
  go_wp2_with (first
   |(go_at_call 179;refine(z.out _).mono ?_;rintro e w' ⟨rfl,rfl⟩)
   |(go_at_call 109;refine(w.out _).mono ?_;rintro e w' ⟨rfl,rfl⟩))
  exact bodyPost_ret (v:=cX (.ok ((2,x,0),n))) (by simp[results,results139,go_sem,cX]) rfl ⟨by rw[o.out],(Z a _).alloc' _⟩
 |false=>
  rw[hk]at w;by_cases h14:14<n
  ·have o:=O (show kh l=.error 6 by rw[j.out,hk,if_neg Qd,if_pos h14]);have R:(14:Int)<n:=Qa
   clear hk j;go_enter func139,ntmps139
   go_wp2_with (first
    |(go_at_call 179;refine(z.out _).mono ?_;rintro e w' ⟨rfl,rfl⟩)
    |(go_at_call 109;refine(w.out _).mono ?_;rintro e w' ⟨rfl,rfl⟩))
   exact bodyPost_ret (v:=cX (.error 6)) (by simp[results,results139,go_sem,cX]) rfl ⟨by rw[o.out],(Z a _).alloc' _⟩
  ·have o:=O (show kh l=.ok ((1,x,0),n) by rw[j.out,hk,if_neg Qd,if_neg h14]);have R: ¬(14:Int)<n:=Qa
   clear hk j;go_enter func139,ntmps139
   go_wp2_with (first
    |(go_at_call 179;refine(z.out _).mono ?_;rintro e w' ⟨rfl,rfl⟩)
    |(go_at_call 109;refine(w.out _).mono ?_;rintro e w' ⟨rfl,rfl⟩))
   exact bodyPost_ret (v:=cX (.ok ((1,x,0),n))) (by simp[results,results139,go_sem,cX]) rfl ⟨by rw[o.out],(Z a _).alloc' _⟩
theorem om (l:List UInt8) (a:Nat) (h:a<l.length):(l.drop a).head? =some l[a]:=by rw[List.head?_drop,aO h]
theorem p7 (l:List UInt8) (a:Nat) (h:l.length<=a):(l.drop a).head? =none:=by rw[List.head?_drop,lu h]
theorem yV (c:UInt8) (m:List UInt8):jZ (c::m)=if(cA m).2=0\/m.head? =some 39\/(m.drop (cA m).2).head? ≠some 39 then .error 3 else .ok ((3,[],((cA m).1.toNat:Int)),(cA m).2+2):=rfl
theorem BK (c:UInt8) (m:List UInt8) (ah:m.length<=100000) (o:World):Calls prog 142 #[.string (J (c::m))] o λe w'=>e=.returned (cX (jZ (c::m)))/\az o w':=by
 have ab:(J (c::m)).size=m.length+1:=by rw[bm];rfl
 have aA:(J (c::m)).extract 1 (m.length+1)=J m:=by
  have:=fK (c::m) 1 (m.length+1);rw[bC Qd]at this;exact this
 have K:=O (λo=>ub m o ah);obtain⟨ax,av⟩:=l9 m;have w:=O (yV c m);generalize af:(cA m).1=v at*;generalize ad:(cA m).2=n at*;have aB:=O ad;have ao:=v.toNat_lt;have an:(v.toNat:Int)<256:=Qa
 clear af ad;by_cases hn0:n=0
 ·have A:=O (show jZ (c::m)=.error 3 by rw[w.out,if_pos (.inl hn0)]);subst hn0;clear w;go_enter func142,ntmps142;go_wp2_with (go_at_call 181;refine(K.out _).mono ?_;rintro e M ⟨rfl,a⟩;have j:=O ((aw o 206 #[.int i64 0,.string ⟨#[]⟩,.int i64 0,.int i64 0]).ext a);have G:=O ((Z o _).trans a);clear a;have X:=j.out.cell;have V:=j.out.frozen);have z:=(j.out.put4 (.int i64 0) (.string ⟨#[]⟩) (.int i64 0) (.int i64 0)).cell;exact bodyPost_ret (v:=cX (.error 3)) (by simp[results,results142,go_sem,cX,z]) rfl ⟨by rw[A.out],G.out.put4 (ak _) _ _ _ _⟩
 ·have ae:0<m.length:=Qa
  have aq:1<(J (c::m)).size:=by rw[ab];omega
  have al:(J (c::m))[1]=m[0]:=rfl;have au:((n:Int)==0)=false:=by simp[hn0]
  by_cases hq:m[0]=39
  ·have A:=O (show jZ (c::m)=.error 3 by rw[w.out,if_pos (.inr (.inl (by rw[kG,aO ae,hq])))]);rw[hq]at al;clear w hn0 hq;go_enter func142,ntmps142;go_wp2_with (go_at_call 181;refine(K.out _).mono ?_;rintro e M ⟨rfl,a⟩;have j:=O ((aw o 206 #[.int i64 0,.string ⟨#[]⟩,.int i64 0,.int i64 0]).ext a);have G:=O ((Z o _).trans a);clear a;have X:=j.out.cell;have V:=j.out.frozen);have z:=(j.out.put4 (.int i64 0) (.string ⟨#[]⟩) (.int i64 0) (.int i64 0)).cell;exact bodyPost_ret (v:=cX (.error 3)) (by simp[results,results142,go_sem,cX,z]) rfl ⟨by rw[A.out],G.out.put4 (ak _) _ _ _ _⟩
  ·have R:m.head? ≠some 39:=by rw[kG,aO ae];intro e;exact hq (I e)
   have ar:((m[0].toNat:Int)==39)=false:=(ef m[0] 39 Qa).trans (Ql.2 hq);generalize m[0]=d at*;by_cases hln:m.length<n+1
   ·have A:=O (show jZ (c::m)=.error 3 by rw[w.out,if_pos (.inr (.inr (by rw[p7 _ _ Qa];simp)))]);have ag:(m.length:Int)+1<n+2:=Qa
    clear w hn0 hq R;go_enter func142,ntmps142;go_wp2_with (go_at_call 181;refine(K.out _).mono ?_;rintro e M ⟨rfl,a⟩;have j:=O ((aw o 206 #[.int i64 0,.string ⟨#[]⟩,.int i64 0,.int i64 0]).ext a);have G:=O ((Z o _).trans a);clear a;have X:=j.out.cell;have V:=j.out.frozen);have z:=(j.out.put4 (.int i64 0) (.string ⟨#[]⟩) (.int i64 0) (.int i64 0)).cell;exact bodyPost_ret (v:=cX (.error 3)) (by simp[results,results142,go_sem,cX,z]) rfl ⟨by rw[A.out],G.out.put4 (ak _) _ _ _ _⟩
   ·have ac:n<m.length:=Qa
    have ap:n+1<(J (c::m)).size:=by rw[ab];omega
    have ai:(J (c::m))[n+1]=m[n]:=rfl;have ag: ¬(m.length:Int)+1<n+2:=Qa
    by_cases he:m[n]=39
    ·have A:=O (show jZ (c::m)=.ok ((3,[],(v.toNat:Int)),n+2) by
      rw[w.out,if_neg];rintro(h|h|h)
      ·exact hn0 h
      ·exact R h
      ·exact h (by rw[om _ _ ac,he]))
     rw[he]at ai;clear w hn0 hq R he;go_enter func142,ntmps142;go_wp2_with (go_at_call 181;refine(K.out _).mono ?_;rintro e M ⟨rfl,a⟩;have j:=O ((aw o 206 #[.int i64 0,.string ⟨#[]⟩,.int i64 0,.int i64 0]).ext a);have G:=O ((Z o _).trans a);clear a;have X:=j.out.cell;have V:=j.out.frozen);have z:=(j.out.put4 (.int i64 3) (.string ⟨#[]⟩) (.int i64 (v.toNat:Int)) (.int i64 0)).cell;exact bodyPost_ret (v:=cX (.ok ((3,[],(v.toNat:Int)),n+2))) (by simp[results,results142,go_sem,cX,z];rfl) rfl ⟨by rw[A.out],G.out.put4 (ak _) _ _ _ _⟩
    ·have A:=O (show jZ (c::m)=.error 3 by
      rw[w.out,if_pos (.inr (.inr (by rw[om _ _ ac];intro e;exact he (I e))))])
     have aj:((m[n].toNat:Int)==39)=false:=(ef m[n] 39 Qa).trans (Ql.2 he);have ay:((m[n].toNat:Int) !=39)=true:=by rw[bne,aj];rfl
     generalize m[n]=u at*;clear w hn0 hq R he;go_enter func142,ntmps142;go_wp2_with (go_at_call 181;refine(K.out _).mono ?_;rintro e M ⟨rfl,a⟩;have j:=O ((aw o 206 #[.int i64 0,.string ⟨#[]⟩,.int i64 0,.int i64 0]).ext a);have G:=O ((Z o _).trans a);clear a;have X:=j.out.cell;have V:=j.out.frozen);have z:=(j.out.put4 (.int i64 0) (.string ⟨#[]⟩) (.int i64 0) (.int i64 0)).cell;exact bodyPost_ret (v:=cX (.error 3)) (by simp[results,results142,go_sem,cX,z]) rfl ⟨by rw[A.out],G.out.put4 (ak _) _ _ _ _⟩
theorem bt:qt prog 40 5:=⟨underlying40,by kernel_rfl⟩
theorem Sl.one (a:World) (v:UInt8):Sl (a.alloc (.cells #[.int .u8 (v.toNat:Int)] 5)) (some ⟨a.heap.size,0,none⟩) 1 [v]:=
 ⟨by simp,by simp[maxLen],(λo=>by cases o),.inr ⟨a.heap.size,0,rfl,by simp,λi j=>by
  have h:i=0:=by simp at j;omega
  subst h;rw[(aw a 5 #[.int .u8 (v.toNat:Int)]).cell]
  rfl⟩⟩
theorem sB {m:List UInt8} {a:Nat} (j:a<m.length) (h:m[a]=34):ku (m.drop a)=some ([],1):=by
 rw[aD j,h];exact tS _
theorem sC {m:List UInt8} {a:Nat} (o:a<m.length) (j:m[a]≠34) (h:(cA (m.drop a)).2=0):ku (m.drop a)=none:=by
 rw[aD o]at h⊢;exact AT j h
theorem qB {m:List UInt8} {a:Nat} (w:a<m.length) (j:m[a]≠34) (o:(cA (m.drop a)).2≠0):ku (m.drop a)=(ku (m.drop (a+(cA (m.drop a)).2))).map λx=>((cA (m.drop a)).1::x.1,(cA (m.drop a)).2+x.2):=by
 have e:m.drop (a+(cA (m.drop a)).2)=(m.drop a).drop (cA (m.drop a)).2:=by rw[eI]
 rw[e];generalize h:m.drop a=d at*;rw[aD w]at h;subst h;exact q8 j o
theorem xU (c:UInt8) (m:List UInt8):jM (c::m)=match ku m with
 |none=> .error 3
 |some (t,n)=>if 128<t.length then .error 6 else .ok ((4,t,0),n+1):=rfl
theorem zE (c:UInt8) (m:List UInt8) (a6:m.length<=100000) (j:World):Calls prog 143 #[.string (J (c::m))] j λe w'=>e=.returned (cX (jM (c::m)))/\az j w':=by
 have aE:(J (c::m)).size=m.length+1:=by rw[bm];rfl
 have w:=O (xU c m);go_enter func143,ntmps143;go_wp2_with fail
 go_loopw [5,6] (λaB ad wr=> ∃(B:Option Addr) (I:Nat) (b:List UInt8) (a:Nat),aB=.slice B b.length I/\qp wr (j.heap.size+1) 5 (.slice B b.length I) b/\ad=.int i64 ((a+1:Nat):Int)/\a<=m.length/\b.length<=a/\
   Hid (ku m=(ku (m.drop a)).map λx=>(b++x.1,a+x.2))/\aU wr j.heap.size 206 #[.int i64 0,.string ⟨#[]⟩,.int i64 0,.int i64 0]/\az j wr) (λ_ ad _=>m.length+1-(intOf ad).toNat)
 case atStart=>
  refine⟨none,0,[],0,rfl,qp.nil_ _ _ _,rfl,aI _,aI _,O ?_,aw j _ _,Z j _⟩
  cases R:ku m<;>simp[R]
 case round=>
  obtain⟨B,I,b,a,rfl,an,rfl,a8,bc,z,M,aj⟩:=hrel;have ax:=O an;have A:=O M;have V:=O aj;have ag:=M.cell;have af:=M.frozen;have aY:=M.lt;clear an M aj;have aH:((a+1:Nat):Int)=(a:Int)+1:=Qa
  rw[aH];by_cases hlt:a<m.length
  ·have a7:a+1<(J (c::m)).size:=by rw[aE];omega
   have aK:(J (c::m))[a+1]=m[a]:=rfl;have aF:(a:Int)+1<m.length+1:=Qa
   by_cases h34:m[a]=34
   ·have X:ku m=some (b,a+1):=by rw[z.out,sB hlt h34];simp
    rw[h34]at aK;by_cases h128:128<b.length
    ·have K:=O (show jM (c::m)=.error 6 by rw[w.out,X];simp only;rw[if_pos h128]);have aN:(128:Int)<b.length:=Qa
     clear h34 X w z;go_wp2_with fail;have G:=(A.out.put4 (.int i64 0) (.string ⟨#[]⟩) (.int i64 0) (.int i64 0)).cell;exact bodyPost_ret (v:=cX (.error 6)) (by simp[results,results143,go_sem,cX,G]) rfl ⟨by rw[K.out],V.out.put4 (ak _) _ _ _ _⟩
    ·have K:=O (show jM (c::m)=.ok ((4,b,0),a+1+1) by rw[w.out,X];simp only;rw[if_neg h128]);have aN: ¬(128:Int)<b.length:=Qa
     have bb:=ax.out.sl.2.convert (P:=prog) (src:=40) (dst:=9) underlying40 underlying5 underlying9;clear h34 X w z;go_wp2_with fail;have G:=(A.out.put4 (.int i64 4) (.string (J b)) (.int i64 0) (.int i64 0)).cell;exact bodyPost_ret (v:=cX (.ok ((4,b,0),a+1+1))) (by simp[results,results143,go_sem,cX,G]) rfl ⟨by rw[K.out],V.out.put4 (ak _) _ _ _ _⟩
   ·have aJ:((m[a].toNat:Int)==34)=false:=(ef m[a] 34 Qa).trans (Ql.2 h34);have a9:((m[a].toNat:Int) !=34)=true:=by rw[bne,aJ];rfl
    have ba:(J (c::m)).extract (a+1) (m.length+1)=J (m.drop a):=by
     have:=fK (c::m) (a+1) (m.length+1);rw[bC Qd]at this;exact this
    have aA:=O (λj=>ub (m.drop a) j (by rw[bD];omega));obtain⟨aG,a5⟩:=l9 (m.drop a);rw[bD]at aG;have ai:=O (λR=>sC (m:=m) hlt h34 R);have ah:=O (λR=>qB (m:=m) hlt h34 R);generalize aD:(cA (m.drop a)).1=v at*;generalize ap:(cA (m.drop a)).2=n at*;generalize m[a]=d at*;have bd:=O ap;have a2:=v.toNat_lt;have a1:(v.toNat:Int)<256:=Qa
    clear aD ap h34;generalize au:m.drop a=aX at*;have be:=O au;clear au;by_cases hn0:n=0
    ·have K:=O (show jM (c::m)=.error 3 by rw[w.out,z.out,ai.out hn0];rfl);subst hn0;clear w z ai ah;go_wp2_with (go_at_call 181;refine(aA.out _).mono ?_;rintro e ab ⟨rfl,o⟩;have A:=O (A.out.ext o);have aS:=O (V.out.trans o);clear o ag af;have ag:=A.out.cell;have af:=A.out.frozen);have G:=(A.out.put4 (.int i64 0) (.string ⟨#[]⟩) (.int i64 0) (.int i64 0)).cell;exact bodyPost_ret (v:=cX (.error 3)) (by simp[results,results143,go_sem,cX,G]) rfl ⟨by rw[K.out],aS.out.put4 (ak _) _ _ _ _⟩
    ·have a3:((n:Int)==0)=false:=by simp[hn0]
     have a4:1<=n:=Qa
     have aQ:=O (show ku m=(ku (m.drop (a+n))).map λx=>((b++[v])++x.1,(a+n)+x.2) by
      rw[z.out,ah.out hn0,Option.map_map]
      congr 1
      funext x
      simp[dT])
     clear w z ai ah hn0
     go_wp2_with (first
      |(go_at_call 181;refine(aA.out _).mono ?_;rintro e ab ⟨rfl,o⟩;have av:=O (ax.out.ext (o.alloc' (.cells #[.int .u8 (v.toNat:Int)] 5)));have aT:=O (A.out.ext (o.alloc' (.cells #[.int .u8 (v.toNat:Int)] 5)));have aR:=O (V.out.trans (o.alloc' (.cells #[.int .u8 (v.toNat:Int)] 5)));have aZ:=o.size;clear o ag af)
      |(at_builtin;refine pl bt rfl _ _ rfl (j.heap.size+1) (.slice B b.length I) b rfl av.out (some ⟨ab.heap.size,0,none⟩) 1 [v] rfl (Sl.one ab v) Qh Qh ?_;intro aV aO aW ao ar _;have aP:=O ao;have ay:=O ar;clear ao ar))
     go_roundw
     case rel=>
      have al:=λk ae=>(World.ownsRow.lt av.out k ae).1;have aC:=aR.out.grown ay.out (λk ae=>by have:=al k ae;omega);have aM:=aT.out.grown ay.out (λe=>by have:=al _ e.symm;omega);refine⟨aV,aO,b++[v],a+n,by rw[ac];rfl,?_,by go_num,by omega,by rw[ac];simp;omega,aQ,aM,aC⟩;rw[ac];exact aP.out
     case measure=>simp[intOf];omega
  ·have aq:m.drop a=[]:=aL Qa;have K:=O (show jM (c::m)=.error 3 by rw[w.out,z.out,aq];rfl);have aF: ¬(a:Int)+1<m.length+1:=Qa
   clear w z aq;go_wp2_with fail;have G:=(A.out.put4 (.int i64 0) (.string ⟨#[]⟩) (.int i64 0) (.int i64 0)).cell;exact bodyPost_ret (v:=cX (.error 3)) (by simp[results,results143,go_sem,cX,G]) rfl ⟨by rw[K.out],V.out.put4 (ak _) _ _ _ _⟩
theorem tI (c:UInt8):0<=Lib.indexByte lR c↔lR.contains c=true:=by
 rcases pg c lR with⟨h,a⟩|⟨h,a⟩
 ·rw[h,a];simp
 ·rw[a];simp[h]
theorem s7 (a b:UInt8) (l:List UInt8):([a,b]:List UInt8).isPrefixOf l=(l.take 2==[a,b]):=by
 match l with
 | []=>rfl
 | [c]=>simp[List.isPrefixOf]
 |c::d::r=>
  simp only[List.isPrefixOf,iy,List.take_succ_cons,List.take_zero];rw[show(a==c)=(c==a)from BEq.comm,show(b==d)=(d==b)from BEq.comm];simp
def ii (i:Nat) (l:List UInt8):Bool:=(two.getD i []).isPrefixOf l
theorem zp (l:List UInt8):two.contains (l.take 2)=(ii 0 l||ii 1 l||ii 2 l||ii 3 l||ii 4 l||ii 5 l):=by
 unfold ii two;simp only[List.getD_cons_zero,List.getD_cons_succ,s7,gQ,List.contains_nil,mI,mJ]
theorem Au {i:Nat} {l:List UInt8} (j:i<6) (a:ii i l=true):l.take 2=two.getD i []:=by
 unfold ii two at a;unfold two;have h:i=0\/i=1\/i=2\/i=3\/i=4\/i=5:=Qa
 rcases h with rfl|rfl|rfl|rfl|rfl|rfl<;>(simp only[List.getD_cons_zero,List.getD_cons_succ,s7]at a⊢;exact beq_iff_eq.1 a)
theorem kt {l:List UInt8} {i:Nat} {t:List UInt8} (h:i<6) (a:two.getD i []=t) (o:ii i l=true) (j:two.contains (l.take 2)=true):ja l=.ok ((5,t,0),2):=by
 unfold ja;rw[if_pos j,Au h o,a]
theorem AM (c:UInt8) (m:List UInt8) (ac:m.length<=100000) (a:World):Calls prog 144 #[.string (J (c::m))] a λe w'=>e=.returned (cX (ja (c::m)))/\az a w':=by
 have V:(J (c::m)).size=m.length+1:=by rw[bm];rfl
 have af:0<(J (c::m)).size:=by rw[V];omega
 have ad:(J (c::m))[0]=c:=rfl;have ae:(J (c::m)).extract 0 1=J [c]:=by rw[fK];rfl
 have I:=O (zp (c::m));have G:=O (λa (p:List UInt8)=>pO (c::m) p a);have ab:=O (λa=>oh lR c a);go_enter func144,ntmps144;go_wp2_with fail
 go_loop [8] (λA=>(A=.int i64 0/\Hid (two.contains ((c::m).take 2)=(ii 0 (c::m)||ii 1 (c::m)||ii 2 (c::m)||ii 3 (c::m)||ii 4 (c::m)||ii 5 (c::m))))\/(A=.int i64 1/\Hid (two.contains ((c::m).take 2)=(ii 1 (c::m)||ii 2 (c::m)||ii 3 (c::m)||ii 4 (c::m)||ii 5 (c::m))))\/(A=.int i64 2/\Hid (two.contains ((c::m).take 2)=(ii 2 (c::m)||ii 3 (c::m)||ii 4 (c::m)||ii 5 (c::m))))\/(A=.int i64 3/\Hid (two.contains ((c::m).take 2)=(ii 3 (c::m)||ii 4 (c::m)||ii 5 (c::m))))\/(A=.int i64 4/\Hid (two.contains ((c::m).take 2)=(ii 4 (c::m)||ii 5 (c::m))))\/(A=.int i64 5/\Hid (two.contains ((c::m).take 2)=(ii 5 (c::m))))\/(A=.int i64 6/\Hid (two.contains ((c::m).take 2)=(false)))) (λA=>7-(intOf A).toNat)
 case atStart=>exact .inl ⟨rfl,I⟩
 case round=>
  rcases hrel with⟨rfl,j⟩|⟨rfl,j⟩|⟨rfl,j⟩|⟨rfl,j⟩|⟨rfl,j⟩|⟨rfl,j⟩|⟨rfl,j⟩
  ·have K: ∀a:World,(Instr.index 264 (.agg #[.string ⟨#[61,61]⟩,.string ⟨#[33,61]⟩,.string ⟨#[60,61]⟩,.string ⟨#[62,61]⟩,.string ⟨#[38,38]⟩,.string ⟨#[124,124]⟩]) (.int i64 0)).run prog a=.ok (.string ⟨#[61,61]⟩) a:=λa=>by(show _=_;kernel_rfl)
   have o:=O (λa=>(show Calls prog 138 #[.string (J (c::m)),.string ⟨#[61,61]⟩] a λe w'=>e=.returned (.bool (ii 0 (c::m)))/\a=w' from G.out a [61,61]))
   cases hp:ii 0 (c::m)with
   |true=>
    have w:=O (kt (i:=0) (t:=[61,61]) Qa rfl hp (by rw[j.out,hp];simp));rw[hp]at o;clear hp j;go_wp2_with (go_at_call 138;refine(o.out _).mono ?_;rintro e w' ⟨rfl,rfl⟩);exact bodyPost_ret (v:=cX (.ok ((5,[61,61],0),2))) (by simp[results,results144,go_sem,cX];rfl) rfl ⟨by rw[w.out],Z a _⟩
   |false=>
    have z:=O (show two.contains ((c::m).take 2)=(ii 1 (c::m)||ii 2 (c::m)||ii 3 (c::m)||ii 4 (c::m)||ii 5 (c::m)) by rw[j.out,hp];simp);rw[hp]at o;clear hp j;go_wp2_with (go_at_call 138;refine(o.out _).mono ?_;rintro e w' ⟨rfl,rfl⟩)
    go_round
    case rel=>exact .inr (.inl ⟨rfl,z⟩)
    case measure=>simp[intOf]
  ·have K: ∀a:World,(Instr.index 264 (.agg #[.string ⟨#[61,61]⟩,.string ⟨#[33,61]⟩,.string ⟨#[60,61]⟩,.string ⟨#[62,61]⟩,.string ⟨#[38,38]⟩,.string ⟨#[124,124]⟩]) (.int i64 1)).run prog a=.ok (.string ⟨#[33,61]⟩) a:=λa=>by(show _=_;kernel_rfl)
   have o:=O (λa=>(show Calls prog 138 #[.string (J (c::m)),.string ⟨#[33,61]⟩] a λe w'=>e=.returned (.bool (ii 1 (c::m)))/\a=w' from G.out a [33,61]))
   cases hp:ii 1 (c::m)with
   |true=>
    have w:=O (kt (i:=1) (t:=[33,61]) Qa rfl hp (by rw[j.out,hp];simp));rw[hp]at o;clear hp j;go_wp2_with (go_at_call 138;refine(o.out _).mono ?_;rintro e w' ⟨rfl,rfl⟩);exact bodyPost_ret (v:=cX (.ok ((5,[33,61],0),2))) (by simp[results,results144,go_sem,cX];rfl) rfl ⟨by rw[w.out],Z a _⟩
   |false=>
    have z:=O (show two.contains ((c::m).take 2)=(ii 2 (c::m)||ii 3 (c::m)||ii 4 (c::m)||ii 5 (c::m)) by rw[j.out,hp];simp);rw[hp]at o;clear hp j;go_wp2_with (go_at_call 138;refine(o.out _).mono ?_;rintro e w' ⟨rfl,rfl⟩)
    go_round
    case rel=>exact .inr (.inr (.inl ⟨rfl,z⟩))
    case measure=>simp[intOf]
  ·have K: ∀a:World,(Instr.index 264 (.agg #[.string ⟨#[61,61]⟩,.string ⟨#[33,61]⟩,.string ⟨#[60,61]⟩,.string ⟨#[62,61]⟩,.string ⟨#[38,38]⟩,.string ⟨#[124,124]⟩]) (.int i64 2)).run prog a=.ok (.string ⟨#[60,61]⟩) a:=λa=>by(show _=_;kernel_rfl)
   have o:=O (λa=>(show Calls prog 138 #[.string (J (c::m)),.string ⟨#[60,61]⟩] a λe w'=>e=.returned (.bool (ii 2 (c::m)))/\a=w' from G.out a [60,61]))
   cases hp:ii 2 (c::m)with
   |true=>
    have w:=O (kt (i:=2) (t:=[60,61]) Qa rfl hp (by rw[j.out,hp];simp));rw[hp]at o;clear hp j;go_wp2_with (go_at_call 138;refine(o.out _).mono ?_;rintro e w' ⟨rfl,rfl⟩);exact bodyPost_ret (v:=cX (.ok ((5,[60,61],0),2))) (by simp[results,results144,go_sem,cX];rfl) rfl ⟨by rw[w.out],Z a _⟩
   |false=>
    have z:=O (show two.contains ((c::m).take 2)=(ii 3 (c::m)||ii 4 (c::m)||ii 5 (c::m)) by rw[j.out,hp];simp);rw[hp]at o;clear hp j;go_wp2_with (go_at_call 138;refine(o.out _).mono ?_;rintro e w' ⟨rfl,rfl⟩)
    go_round
    case rel=>exact .inr (.inr (.inr (.inl ⟨rfl,z⟩)))
    case measure=>simp[intOf]
  ·have K: ∀a:World,(Instr.index 264 (.agg #[.string ⟨#[61,61]⟩,.string ⟨#[33,61]⟩,.string ⟨#[60,61]⟩,.string ⟨#[62,61]⟩,.string ⟨#[38,38]⟩,.string ⟨#[124,124]⟩]) (.int i64 3)).run prog a=.ok (.string ⟨#[62,61]⟩) a:=λa=>by(show _=_;kernel_rfl)
   have o:=O (λa=>(show Calls prog 138 #[.string (J (c::m)),.string ⟨#[62,61]⟩] a λe w'=>e=.returned (.bool (ii 3 (c::m)))/\a=w' from G.out a [62,61]))
   cases hp:ii 3 (c::m)with
   |true=>
    have w:=O (kt (i:=3) (t:=[62,61]) Qa rfl hp (by rw[j.out,hp];simp));rw[hp]at o;clear hp j;go_wp2_with (go_at_call 138;refine(o.out _).mono ?_;rintro e w' ⟨rfl,rfl⟩);exact bodyPost_ret (v:=cX (.ok ((5,[62,61],0),2))) (by simp[results,results144,go_sem,cX];rfl) rfl ⟨by rw[w.out],Z a _⟩
   |false=>
    have z:=O (show two.contains ((c::m).take 2)=(ii 4 (c::m)||ii 5 (c::m)) by rw[j.out,hp];simp);rw[hp]at o;clear hp j;go_wp2_with (go_at_call 138;refine(o.out _).mono ?_;rintro e w' ⟨rfl,rfl⟩)
    go_round
    case rel=>exact .inr (.inr (.inr (.inr (.inl ⟨rfl,z⟩))))
    case measure=>simp[intOf]
  ·have K: ∀a:World,(Instr.index 264 (.agg #[.string ⟨#[61,61]⟩,.string ⟨#[33,61]⟩,.string ⟨#[60,61]⟩,.string ⟨#[62,61]⟩,.string ⟨#[38,38]⟩,.string ⟨#[124,124]⟩]) (.int i64 4)).run prog a=.ok (.string ⟨#[38,38]⟩) a:=λa=>by(show _=_;kernel_rfl)
   have o:=O (λa=>(show Calls prog 138 #[.string (J (c::m)),.string ⟨#[38,38]⟩] a λe w'=>e=.returned (.bool (ii 4 (c::m)))/\a=w' from G.out a [38,38]))
   cases hp:ii 4 (c::m)with
   |true=>
    have w:=O (kt (i:=4) (t:=[38,38]) Qa rfl hp (by rw[j.out,hp];simp));rw[hp]at o;clear hp j;go_wp2_with (go_at_call 138;refine(o.out _).mono ?_;rintro e w' ⟨rfl,rfl⟩);exact bodyPost_ret (v:=cX (.ok ((5,[38,38],0),2))) (by simp[results,results144,go_sem,cX];rfl) rfl ⟨by rw[w.out],Z a _⟩
   |false=>
    have z:=O (show two.contains ((c::m).take 2)=(ii 5 (c::m)) by rw[j.out,hp];simp);rw[hp]at o;clear hp j;go_wp2_with (go_at_call 138;refine(o.out _).mono ?_;rintro e w' ⟨rfl,rfl⟩)
    go_round
    case rel=>exact .inr (.inr (.inr (.inr (.inr (.inl ⟨rfl,z⟩)))))
    case measure=>simp[intOf]
  ·have K: ∀a:World,(Instr.index 264 (.agg #[.string ⟨#[61,61]⟩,.string ⟨#[33,61]⟩,.string ⟨#[60,61]⟩,.string ⟨#[62,61]⟩,.string ⟨#[38,38]⟩,.string ⟨#[124,124]⟩]) (.int i64 5)).run prog a=.ok (.string ⟨#[124,124]⟩) a:=λa=>by(show _=_;kernel_rfl)
   have o:=O (λa=>(show Calls prog 138 #[.string (J (c::m)),.string ⟨#[124,124]⟩] a λe w'=>e=.returned (.bool (ii 5 (c::m)))/\a=w' from G.out a [124,124]))
   cases hp:ii 5 (c::m)with
   |true=>
    have w:=O (kt (i:=5) (t:=[124,124]) Qa rfl hp (by rw[j.out,hp]));rw[hp]at o;clear hp j;go_wp2_with (go_at_call 138;refine(o.out _).mono ?_;rintro e w' ⟨rfl,rfl⟩);exact bodyPost_ret (v:=cX (.ok ((5,[124,124],0),2))) (by simp[results,results144,go_sem,cX];rfl) rfl ⟨by rw[w.out],Z a _⟩
   |false=>
    have z:=O (show two.contains ((c::m).take 2)=(false) by rw[j.out,hp]);rw[hp]at o;clear hp j;go_wp2_with (go_at_call 138;refine(o.out _).mono ?_;rintro e w' ⟨rfl,rfl⟩)
    go_round
    case rel=>exact .inr (.inr (.inr (.inr (.inr (.inr (⟨rfl,z⟩))))))
    case measure=>simp[intOf]
  ·have M:=O (λa=>(show Calls prog 137 #[.string ⟨#[40,41,123,125,91,93,44,59,61,43,45,42,47,37,60,62,33]⟩,.int .u8 (c.toNat:Int)] a λe w'=>e=.returned (.int i64 (Lib.indexByte lR c))/\a=w' from ab.out a));by_cases h1:0<=Lib.indexByte lR c
   ·have w:=O (show ja (c::m)=.ok ((5,[c],0),1) by
     unfold ja;rw[j.out,if_neg Qd,if_pos]
     ·rfl
     ·show(some c).any (λc=>lR.contains c)=true
      simpa using(tI c).1 h1)
    generalize Lib.indexByte lR c=R at*;clear j;go_wp2_with (go_at_call 137;refine(M.out _).mono ?_;rintro e w' ⟨rfl,rfl⟩);exact bodyPost_ret (v:=cX (.ok ((5,[c],0),1))) (by simp[results,results144,go_sem,cX]) rfl ⟨by rw[w.out],Z a _⟩
   ·have w:=O (show ja (c::m)=.error 3 by
     unfold ja;rw[j.out,if_neg Qd,if_neg];show ¬(some c).any (λc=>lR.contains c)=true;intro X
     exact h1 ((tI c).2 (by simpa using X)))
    generalize Lib.indexByte lR c=R at*;clear j;go_wp2_with (go_at_call 137;refine(M.out _).mono ?_;rintro e w' ⟨rfl,rfl⟩);exact bodyPost_ret (v:=cX (.error 3)) (by simp[results,results144,go_sem,cX]) rfl ⟨by rw[w.out],Z a _⟩
def EZ (w:World):Prop:=(∃ev,w.cell? ⟨4,0,none⟩=some ev/\(ev=.nilIface\/ ∃te pe,ev=.iface te pe))/\(∃ev,w.cell? ⟨5,0,none⟩=some ev/\(ev=.nilIface\/ ∃te pe,ev=.iface te pe))
theorem EZ.ext {a w':World} (w:EZ a) (h:az a w'):EZ w':=by
 obtain⟨⟨G,o,A⟩,b,j,z⟩:=w;exact⟨⟨G,(h.cell _ _ (World.block_lt_of_cell? _ _ o)).trans o,A⟩,b,(h.cell _ _ (World.block_lt_of_cell? _ _ j)).trans j,z⟩
theorem qP (p:UInt8->Bool): ∀l:List UInt8,∀c∈l.take (cm p l),p c=true
 | [],c,h=>by simp at h
 |x::l,c,h=>by
  simp only[cm]at h;split at h
  ·rename_i a;rw[List.take_succ_cons]at h;rcases List.mem_cons.1 h with rfl|h
   ·exact a
   ·exact qP p l c h
  ·simp at h
def uh (acc:Nat) (l:List UInt8):Nat:=l.foldl (λv c=>v*10+(c.toNat-48)) acc
theorem xq: ∀(l:List UInt8) (a:Nat),a<=uh a l
 | [],a=>ak _
 |c::l,a=>by
  have:=xq l (a*10+(c.toNat-48));show a<=uh (a*10+(c.toNat-48)) l;omega
theorem oG: ∀(l:List UInt8) (a:Nat),(∀c∈l,eG c=true)->Lib.parseUint10 a l=.ok (uh a l)\/(Lib.parseUint10 a l=.range/\18446744073709551616<=uh a l)
 | [],a,_=> .inl rfl
 |c::l,a,h=>by
  have w:48<=c.toNat/\c.toNat<=57:=by have:=h c (dr ..);unfold eG at this;simpa using this
  have z:=xq l (a*10+(c.toNat-48));have j:uh a (c::l)=uh (a*10+(c.toNat-48)) l:=rfl;simp only[Lib.parseUint10];rw[if_pos w,j];split
  ·exact .inr ⟨rfl,by omega⟩
  ·split
   ·exact .inr ⟨rfl,by omega⟩
   ·exact oG l _ λd o=>h d (cM _ o)
theorem uq {l:List UInt8} (G:l≠ []) (A: ∀c∈l,eG c=true):(Lib.atoiAll l=.ok (mb l:Int))\/(Lib.atoiAll l=.range/\Lib.atoiSat l=9223372036854775807/\9223372036854775808<=mb l):=by
 match l with
 | []=>exact absurd rfl G
 |c::r=>
  have K:48<=c.toNat/\c.toNat<=57:=by have:=A c (dr ..);unfold eG at this;simpa using this
  have z: ¬c.toNat=45:=Qa
  have o: ¬(c.toNat=43\/c.toNat=45):=Qa
  have j:mb (c::r)=uh 0 (c::r):=rfl;have w:Lib.atoiSat (c::r)=9223372036854775807:=by
   unfold Lib.atoiSat;rw[if_neg Qh]
  have h:Lib.parseMag (c::r)=Lib.parseUint10 0 (c::r):=by unfold Lib.parseMag;rw[if_neg Qd]
  rcases oG (c::r) 0 A with a|⟨a,h2⟩
  ·by_cases hb:9223372036854775808<=uh 0 (c::r)
   ·refine .inr ⟨?_,w,by rw[j];exact hb⟩;simp only[Lib.atoiAll];rw[if_neg o,h,a];simp only;rw[if_pos ⟨z,hb⟩]
   ·refine .inl ?_;simp only[Lib.atoiAll];rw[if_neg o,h,a];simp only;rw[if_neg Qa,if_neg Qa,if_neg z,j]
  ·refine .inr ⟨?_,w,by rw[j];omega⟩;simp only[Lib.atoiAll];rw[if_neg o,h,a]
theorem BY (l:List UInt8) (A:l≠ []) (M:l.length<=100000) (j: ∀c∈l,eG c=true) (a:World) (z:EZ a):
  ∃v:Int,(v=mb l\/(v=9223372036854775807/\9223372036854775808<=mb l))/\Calls prog 180 #[.string (J l)] a λe w'=>(∃K,e=.returned (.tuple #[.int i64 v,K]))/\az a w':=by
 rcases uq A j with h|⟨h,h2,h3⟩
 ·refine⟨mb l,.inl rfl,?_⟩;refine(Tryz.strconv_Atoi_ok (J l) (by rw[bm];omega) (mb l) (by rw[jw];exact h) a).mono ?_;rintro e w' ⟨rfl,j⟩;refine⟨⟨_,rfl⟩,?_⟩;rcases j with rfl|⟨t,rfl⟩
  ·exact aS _
  ·exact Lib.bytesWorld_below _ _ _
 ·refine⟨9223372036854775807,.inr ⟨rfl,h3⟩,?_⟩;obtain⟨ev,w,o⟩:=z.2;refine(Tryz.strconv_Atoi_range (J l) (by rw[bm];omega) (by rw[jw];exact h) ev a w o).mono ?_;rintro e w' ⟨N,rfl,_,_,G⟩;rw[jw,h2];exact⟨⟨_,rfl⟩,G⟩
theorem AF (c:UInt8) (m:List UInt8) {n:Nat} {x:List UInt8} (h:cm eG (c::m)=n) (a:(c::m).take n=x):ji (c::m)=if((c::m).drop n).head?.any fd then .error 3 else if 10<n\/(1<n/\c=48)\/2147483647<mb x then .error 2 else .ok ((3,[],mb x),n):=by
 subst h;subst a;unfold ji;simp
theorem De (c:UInt8) (m:List UInt8) {n:Nat} (h:n<=m.length+1) (a: ¬n<m.length+1):((c::m).drop n).head?.any fd=false:=by
 rw[aL Qh];rfl
theorem Fa (c:UInt8) (m:List UInt8) {n:Nat} (a:n<(c::m).length):((c::m).drop n).head?.any fd=fd (c::m)[n]:=by
 rw[om _ _ a];rfl
theorem vF (c:UInt8) (m:List UInt8) (ab:eG c=true) (av:(c::m).length<=100000) (aj:World) (aA:EZ aj):Calls prog 141 #[.string (J (c::m))] aj λe w'=>e=.returned (cX (ji (c::m)))/\az aj w':=by
 have ar:(J (c::m)).size=m.length+1:=by rw[bm];rfl
 have aM:0<(J (c::m)).size:=by rw[ar];omega
 have aK:(J (c::m))[0]=c:=rfl;have aJ:m.length<=99999:=by simpa using av
 have aF:cm eG (c::m)<=m.length+1:=jx eG (c::m);have aI:1<=cm eG (c::m):=by simp[cm,ab]
 have ax:=qP eG (c::m);have aG:=fK (c::m) 0 (cm eG (c::m));simp only[au]at aG;have ad:=O (λaj=>tq eG 140 ot (.inr rfl) (c::m) av aj);have ay:=λx o=>O (AF c m (n:=cm eG (c::m)) (x:=x) rfl o);have ac:=O (Z aj (.cells #[.int i64 0,.string ⟨#[]⟩,.int i64 0,.int i64 0] 206));have ae:=O (aw aj 206 #[.int i64 0,.string ⟨#[]⟩,.int i64 0,.int i64 0]);have ap:(c::m).take (cm eG (c::m))≠ []:=by intro o;have:=congrArg List.length o;simp at this;omega
 have aq:((c::m).take (cm eG (c::m))).length<=100000:=by have:=List.length_take_le' (cm eG (c::m)) (c::m);omega
 obtain⟨v,aC,I⟩:=BY ((c::m).take (cm eG (c::m))) ap aq ax _ (aA.ext ac.out);have I:=O I;have z:=ay _ rfl;clear ay;generalize aD:cm eG (c::m)=n at*;generalize aB:(c::m).take n=x at*;clear aD ap ax aq aB;have M:v<=2147483647->v=mb x:=Qa
 have R:2147483647<v->2147483647<mb x:=Qa
 have V:v<=2147483647-> ¬2147483647<mb x:=Qa
 clear aC;by_cases hlt:n<m.length+1
 ·have aH:n<(J (c::m)).size:=by rw[ar];exact hlt
  have aL:(J (c::m))[n]=(c::m)[n]'hlt:=rfl;have w:=Fa c m (n:=n) hlt;have X:=O (nt ((c::m)[n]'hlt));have aE:(n:Int)<m.length+1:=Qa
  generalize (c::m)[n]'hlt=d at*
  cases hp:fd d with
  |true=>
   rw[hp]at X w;have K:=O (show ji (c::m)=.error 3 by rw[z.out,w,if_pos rfl]);clear w hp;clear z ab M R V;go_enter func141,ntmps141
   go_wp2_with (first
    |(go_at_call 179;refine(ad.out _).mono ?_;rintro e w' ⟨rfl,rfl⟩)
    |(go_at_call 180;refine I.out.mono ?_;rintro e af ⟨⟨ai,rfl⟩,a⟩;have j:=O (ae.out.ext a);have G:=O (ac.out.trans a);clear a;have ah:=j.out.cell;have ag:=j.out.frozen)
    |(go_at_call 107;refine(X.out _).mono ?_;rintro e w' ⟨rfl,rfl⟩))
   have A:=(j.out.put4 (.int i64 0) (.string ⟨#[]⟩) (.int i64 0) (.int i64 0)).cell;exact bodyPost_ret (v:=cX (.error 3)) (by simp[results,results141,go_sem,cX,A]) rfl ⟨by rw[K.out],G.out.put4 (ak _) _ _ _ _⟩
  |false=>
   rw[hp]at X w;clear hp;by_cases hA:10<n
   ·have ao:(10:Int)<n:=Qa
    have K:=O (show ji (c::m)=.error 2 by rw[z.out,w,if_neg Qd,if_pos (.inl hA)]);clear w;clear z ab M R V;go_enter func141,ntmps141
    go_wp2_with (first
     |(go_at_call 179;refine(ad.out _).mono ?_;rintro e w' ⟨rfl,rfl⟩)
     |(go_at_call 180;refine I.out.mono ?_;rintro e af ⟨⟨ai,rfl⟩,a⟩;have j:=O (ae.out.ext a);have G:=O (ac.out.trans a);clear a;have ah:=j.out.cell;have ag:=j.out.frozen)
     |(go_at_call 107;refine(X.out _).mono ?_;rintro e w' ⟨rfl,rfl⟩))
    have A:=(j.out.put4 (.int i64 0) (.string ⟨#[]⟩) (.int i64 0) (.int i64 0)).cell;exact bodyPost_ret (v:=cX (.error 2)) (by simp[results,results141,go_sem,cX,A]) rfl ⟨by rw[K.out],G.out.put4 (ak _) _ _ _ _⟩
   ·have ao: ¬(10:Int)<n:=Qa
    by_cases hB:1<n
    ·have an:(1:Int)<n:=Qa
     by_cases hC:c=48
     ·have al:((c.toNat:Int)==48)=true:=by rw[hC];rfl
      have K:=O (show ji (c::m)=.error 2 by rw[z.out,w,if_neg Qd,if_pos (.inr (.inl ⟨hB,hC⟩))]);clear w hC;clear z ab M R V;go_enter func141,ntmps141
      go_wp2_with (first
       |(go_at_call 179;refine(ad.out _).mono ?_;rintro e w' ⟨rfl,rfl⟩)
       |(go_at_call 180;refine I.out.mono ?_;rintro e af ⟨⟨ai,rfl⟩,a⟩;have j:=O (ae.out.ext a);have G:=O (ac.out.trans a);clear a;have ah:=j.out.cell;have ag:=j.out.frozen)
       |(go_at_call 107;refine(X.out _).mono ?_;rintro e w' ⟨rfl,rfl⟩))
      have A:=(j.out.put4 (.int i64 0) (.string ⟨#[]⟩) (.int i64 0) (.int i64 0)).cell;exact bodyPost_ret (v:=cX (.error 2)) (by simp[results,results141,go_sem,cX,A]) rfl ⟨by rw[K.out],G.out.put4 (ak _) _ _ _ _⟩
     ·have al:((c.toNat:Int)==48)=false:=(ef c 48 Qa).trans (Ql.2 hC);by_cases hV:2147483647<v
      ·have K:=O (show ji (c::m)=.error 2 by rw[z.out,w,if_neg Qd,if_pos (.inr (.inr (R hV)))]);clear w;clear hC;clear z ab M R V;go_enter func141,ntmps141
       go_wp2_with (first
        |(go_at_call 179;refine(ad.out _).mono ?_;rintro e w' ⟨rfl,rfl⟩)
        |(go_at_call 180;refine I.out.mono ?_;rintro e af ⟨⟨ai,rfl⟩,a⟩;have j:=O (ae.out.ext a);have G:=O (ac.out.trans a);clear a;have ah:=j.out.cell;have ag:=j.out.frozen)
        |(go_at_call 107;refine(X.out _).mono ?_;rintro e w' ⟨rfl,rfl⟩))
       have A:=(j.out.put4 (.int i64 0) (.string ⟨#[]⟩) (.int i64 0) (.int i64 0)).cell;exact bodyPost_ret (v:=cX (.error 2)) (by simp[results,results141,go_sem,cX,A]) rfl ⟨by rw[K.out],G.out.put4 (ak _) _ _ _ _⟩
      ·have K:=O (show ji (c::m)=.ok ((3,[],v),n) by rw[z.out,w,if_neg Qd,if_neg (by rintro(o|o|o);exact hA o;exact(λo:1<n/\c=48=>hC o.2) o;exact V Qa o),M Qa]);clear w;clear hC;clear z ab M R V;go_enter func141,ntmps141
       go_wp2_with (first
        |(go_at_call 179;refine(ad.out _).mono ?_;rintro e w' ⟨rfl,rfl⟩)
        |(go_at_call 180;refine I.out.mono ?_;rintro e af ⟨⟨ai,rfl⟩,a⟩;have j:=O (ae.out.ext a);have G:=O (ac.out.trans a);clear a;have ah:=j.out.cell;have ag:=j.out.frozen)
        |(go_at_call 107;refine(X.out _).mono ?_;rintro e w' ⟨rfl,rfl⟩))
       have A:=(j.out.put4 (.int i64 3) (.string ⟨#[]⟩) (.int i64 v) (.int i64 0)).cell;exact bodyPost_ret (v:=cX (.ok ((3,[],v),n))) (by simp[results,results141,go_sem,cX,A];rfl) rfl ⟨by rw[K.out],G.out.put4 (ak _) _ _ _ _⟩
    ·have an: ¬(1:Int)<n:=Qa
     by_cases hV:2147483647<v
     ·have K:=O (show ji (c::m)=.error 2 by rw[z.out,w,if_neg Qd,if_pos (.inr (.inr (R hV)))]);clear w;clear z ab M R V;go_enter func141,ntmps141
      go_wp2_with (first
       |(go_at_call 179;refine(ad.out _).mono ?_;rintro e w' ⟨rfl,rfl⟩)
       |(go_at_call 180;refine I.out.mono ?_;rintro e af ⟨⟨ai,rfl⟩,a⟩;have j:=O (ae.out.ext a);have G:=O (ac.out.trans a);clear a;have ah:=j.out.cell;have ag:=j.out.frozen)
       |(go_at_call 107;refine(X.out _).mono ?_;rintro e w' ⟨rfl,rfl⟩))
      have A:=(j.out.put4 (.int i64 0) (.string ⟨#[]⟩) (.int i64 0) (.int i64 0)).cell;exact bodyPost_ret (v:=cX (.error 2)) (by simp[results,results141,go_sem,cX,A]) rfl ⟨by rw[K.out],G.out.put4 (ak _) _ _ _ _⟩
     ·have K:=O (show ji (c::m)=.ok ((3,[],v),n) by rw[z.out,w,if_neg Qd,if_neg (by rintro(o|o|o);exact hA o;exact(λo:1<n/\c=48=>hB o.1) o;exact V Qa o),M Qa]);clear w;clear z ab M R V;go_enter func141,ntmps141
      go_wp2_with (first
       |(go_at_call 179;refine(ad.out _).mono ?_;rintro e w' ⟨rfl,rfl⟩)
       |(go_at_call 180;refine I.out.mono ?_;rintro e af ⟨⟨ai,rfl⟩,a⟩;have j:=O (ae.out.ext a);have G:=O (ac.out.trans a);clear a;have ah:=j.out.cell;have ag:=j.out.frozen)
       |(go_at_call 107;refine(X.out _).mono ?_;rintro e w' ⟨rfl,rfl⟩))
      have A:=(j.out.put4 (.int i64 3) (.string ⟨#[]⟩) (.int i64 v) (.int i64 0)).cell;exact bodyPost_ret (v:=cX (.ok ((3,[],v),n))) (by simp[results,results141,go_sem,cX,A];rfl) rfl ⟨by rw[K.out],G.out.put4 (ak _) _ _ _ _⟩
 ·have aE: ¬(n:Int)<m.length+1:=Qa
  have w:=De c m aF hlt;have X:=O (nt 0);by_cases hA:10<n
  ·have ao:(10:Int)<n:=Qa
   have K:=O (show ji (c::m)=.error 2 by rw[z.out,w,if_neg Qd,if_pos (.inl hA)]);clear w;clear z ab M R V;go_enter func141,ntmps141
   go_wp2_with (first
    |(go_at_call 179;refine(ad.out _).mono ?_;rintro e w' ⟨rfl,rfl⟩)
    |(go_at_call 180;refine I.out.mono ?_;rintro e af ⟨⟨ai,rfl⟩,a⟩;have j:=O (ae.out.ext a);have G:=O (ac.out.trans a);clear a;have ah:=j.out.cell;have ag:=j.out.frozen)
    |(go_at_call 107;refine(X.out _).mono ?_;rintro e w' ⟨rfl,rfl⟩))
   have A:=(j.out.put4 (.int i64 0) (.string ⟨#[]⟩) (.int i64 0) (.int i64 0)).cell;exact bodyPost_ret (v:=cX (.error 2)) (by simp[results,results141,go_sem,cX,A]) rfl ⟨by rw[K.out],G.out.put4 (ak _) _ _ _ _⟩
  ·have ao: ¬(10:Int)<n:=Qa
   by_cases hB:1<n
   ·have an:(1:Int)<n:=Qa
    by_cases hC:c=48
    ·have al:((c.toNat:Int)==48)=true:=by rw[hC];rfl
     have K:=O (show ji (c::m)=.error 2 by rw[z.out,w,if_neg Qd,if_pos (.inr (.inl ⟨hB,hC⟩))]);clear w hC;clear z ab M R V;go_enter func141,ntmps141
     go_wp2_with (first
      |(go_at_call 179;refine(ad.out _).mono ?_;rintro e w' ⟨rfl,rfl⟩)
      |(go_at_call 180;refine I.out.mono ?_;rintro e af ⟨⟨ai,rfl⟩,a⟩;have j:=O (ae.out.ext a);have G:=O (ac.out.trans a);clear a;have ah:=j.out.cell;have ag:=j.out.frozen)
      |(go_at_call 107;refine(X.out _).mono ?_;rintro e w' ⟨rfl,rfl⟩))
     have A:=(j.out.put4 (.int i64 0) (.string ⟨#[]⟩) (.int i64 0) (.int i64 0)).cell;exact bodyPost_ret (v:=cX (.error 2)) (by simp[results,results141,go_sem,cX,A]) rfl ⟨by rw[K.out],G.out.put4 (ak _) _ _ _ _⟩
    ·have al:((c.toNat:Int)==48)=false:=(ef c 48 Qa).trans (Ql.2 hC);by_cases hV:2147483647<v
     ·have K:=O (show ji (c::m)=.error 2 by rw[z.out,w,if_neg Qd,if_pos (.inr (.inr (R hV)))]);clear w;clear hC;clear z ab M R V;go_enter func141,ntmps141
      go_wp2_with (first
       |(go_at_call 179;refine(ad.out _).mono ?_;rintro e w' ⟨rfl,rfl⟩)
       |(go_at_call 180;refine I.out.mono ?_;rintro e af ⟨⟨ai,rfl⟩,a⟩;have j:=O (ae.out.ext a);have G:=O (ac.out.trans a);clear a;have ah:=j.out.cell;have ag:=j.out.frozen)
       |(go_at_call 107;refine(X.out _).mono ?_;rintro e w' ⟨rfl,rfl⟩))
      have A:=(j.out.put4 (.int i64 0) (.string ⟨#[]⟩) (.int i64 0) (.int i64 0)).cell;exact bodyPost_ret (v:=cX (.error 2)) (by simp[results,results141,go_sem,cX,A]) rfl ⟨by rw[K.out],G.out.put4 (ak _) _ _ _ _⟩
     ·have K:=O (show ji (c::m)=.ok ((3,[],v),n) by rw[z.out,w,if_neg Qd,if_neg (by rintro(o|o|o);exact hA o;exact(λo:1<n/\c=48=>hC o.2) o;exact V Qa o),M Qa]);clear w;clear hC;clear z ab M R V;go_enter func141,ntmps141
      go_wp2_with (first
       |(go_at_call 179;refine(ad.out _).mono ?_;rintro e w' ⟨rfl,rfl⟩)
       |(go_at_call 180;refine I.out.mono ?_;rintro e af ⟨⟨ai,rfl⟩,a⟩;have j:=O (ae.out.ext a);have G:=O (ac.out.trans a);clear a;have ah:=j.out.cell;have ag:=j.out.frozen)
       |(go_at_call 107;refine(X.out _).mono ?_;rintro e w' ⟨rfl,rfl⟩))
      have A:=(j.out.put4 (.int i64 3) (.string ⟨#[]⟩) (.int i64 v) (.int i64 0)).cell;exact bodyPost_ret (v:=cX (.ok ((3,[],v),n))) (by simp[results,results141,go_sem,cX,A];rfl) rfl ⟨by rw[K.out],G.out.put4 (ak _) _ _ _ _⟩
   ·have an: ¬(1:Int)<n:=Qa
    by_cases hV:2147483647<v
    ·have K:=O (show ji (c::m)=.error 2 by rw[z.out,w,if_neg Qd,if_pos (.inr (.inr (R hV)))]);clear w;clear z ab M R V;go_enter func141,ntmps141
     go_wp2_with (first
      |(go_at_call 179;refine(ad.out _).mono ?_;rintro e w' ⟨rfl,rfl⟩)
      |(go_at_call 180;refine I.out.mono ?_;rintro e af ⟨⟨ai,rfl⟩,a⟩;have j:=O (ae.out.ext a);have G:=O (ac.out.trans a);clear a;have ah:=j.out.cell;have ag:=j.out.frozen)
      |(go_at_call 107;refine(X.out _).mono ?_;rintro e w' ⟨rfl,rfl⟩))
     have A:=(j.out.put4 (.int i64 0) (.string ⟨#[]⟩) (.int i64 0) (.int i64 0)).cell;exact bodyPost_ret (v:=cX (.error 2)) (by simp[results,results141,go_sem,cX,A]) rfl ⟨by rw[K.out],G.out.put4 (ak _) _ _ _ _⟩
    ·have K:=O (show ji (c::m)=.ok ((3,[],v),n) by rw[z.out,w,if_neg Qd,if_neg (by rintro(o|o|o);exact hA o;exact(λo:1<n/\c=48=>hB o.1) o;exact V Qa o),M Qa]);clear w;clear z ab M R V;go_enter func141,ntmps141
     go_wp2_with (first
      |(go_at_call 179;refine(ad.out _).mono ?_;rintro e w' ⟨rfl,rfl⟩)
      |(go_at_call 180;refine I.out.mono ?_;rintro e af ⟨⟨ai,rfl⟩,a⟩;have j:=O (ae.out.ext a);have G:=O (ac.out.trans a);clear a;have ah:=j.out.cell;have ag:=j.out.frozen)
      |(go_at_call 107;refine(X.out _).mono ?_;rintro e w' ⟨rfl,rfl⟩))
     have A:=(j.out.put4 (.int i64 3) (.string ⟨#[]⟩) (.int i64 v) (.int i64 0)).cell;exact bodyPost_ret (v:=cX (.ok ((3,[],v),n))) (by simp[results,results141,go_sem,cX,A];rfl) rfl ⟨by rw[K.out],G.out.put4 (ak _) _ _ _ _⟩
theorem jr (r:ut): ∃k s v n e,cX r=.tuple #[.agg #[.int i64 k,.string s,.int i64 v,.int i64 0],.int i64 n,.int i64 e]:=by
 cases r with
 |ok x=>exact⟨_,_,_,_,_,rfl⟩
 |error e=>exact⟨_,_,_,_,_,rfl⟩
theorem zz (c:UInt8) (m:List UInt8):iF (c::m)=if io c then kh (c::m)else if eG c then ji (c::m)else if c=39 then jZ (c::m)else if c=34 then jM (c::m)else ja (c::m):=rfl
theorem xP (c:UInt8) (m:List UInt8) (ah:(c::m).length<=100000) (A:World) (ab:EZ A):Calls prog 97 #[.string (J (c::m))] A λe w'=>e=.returned (cX (iF (c::m)))/\az A w':=by
 have ai:(J (c::m)).size=m.length+1:=by rw[bm];rfl
 have ap:0<(J (c::m)).size:=by rw[ai];omega
 have ao:(J (c::m))[0]=c:=rfl;have an:m.length<=99999:=by simpa using ah
 have X:=O (m5 c);have I:=O (ot c);have ac:=O (Z A (.cells #[.int i64 0,.string ⟨#[]⟩,.int i64 0,.int i64 0] 206));have ad:=O (aw A 206 #[.int i64 0,.string ⟨#[]⟩,.int i64 0,.int i64 0]);have G:=O (zz c m)
 cases hL:io c with
 |true=>
  rw[hL]at X;have V:=O (show iF (c::m)=kh (c::m) by rw[G.out,hL,if_pos rfl]);obtain⟨k,s,v,n,e,a⟩:=jr (kh (c::m));have z:=O (zi (c::m) ah (A.alloc (.cells #[.int i64 0,.string ⟨#[]⟩,.int i64 0,.int i64 0] 206)));rw[a]at z;have R:=O a;clear hL G a ab;go_enter func97,ntmps97
  go_wp2_with (first
   |(go_at_call 108;refine(X.out _).mono ?_;rintro w w' ⟨rfl,rfl⟩)
   |(go_at_call 140;refine(I.out _).mono ?_;rintro w w' ⟨rfl,rfl⟩)
   |(go_at_call 139;refine z.out.mono ?_;rintro w ae ⟨rfl,j⟩;have o:=O (ad.out.ext j);have M:=O (ac.out.trans j);clear j;have ag:=o.out.cell;have af:=o.out.frozen))
  have K:=(o.out.put4 (.int i64 k) (.string s) (.int i64 v) (.int i64 0)).cell;exact bodyPost_ret (v:=.tuple #[.agg #[.int i64 k,.string s,.int i64 v,.int i64 0],.int i64 n,.int i64 e]) (by simp[results,results97,go_sem,K]) rfl ⟨by rw[V.out,R.out],M.out.put4 (ak _) _ _ _ _⟩
 |false=>
  rw[hL]at X
  cases hD:eG c with
  |true=>
   rw[hD]at I;have V:=O (show iF (c::m)=ji (c::m) by rw[G.out,hL,if_neg Qd,hD,if_pos rfl]);obtain⟨k,s,v,n,e,a⟩:=jr (ji (c::m));have z:=O (vF c m hD ah (A.alloc (.cells #[.int i64 0,.string ⟨#[]⟩,.int i64 0,.int i64 0] 206)) (ab.ext ac.out));rw[a]at z;have R:=O a;clear hL hD G a ab;go_enter func97,ntmps97
   go_wp2_with (first
    |(go_at_call 108;refine(X.out _).mono ?_;rintro w w' ⟨rfl,rfl⟩)
    |(go_at_call 140;refine(I.out _).mono ?_;rintro w w' ⟨rfl,rfl⟩)
    |(go_at_call 141;refine z.out.mono ?_;rintro w ae ⟨rfl,j⟩;have o:=O (ad.out.ext j);have M:=O (ac.out.trans j);clear j;have ag:=o.out.cell;have af:=o.out.frozen))
   have K:=(o.out.put4 (.int i64 k) (.string s) (.int i64 v) (.int i64 0)).cell;exact bodyPost_ret (v:=.tuple #[.agg #[.int i64 k,.string s,.int i64 v,.int i64 0],.int i64 n,.int i64 e]) (by simp[results,results97,go_sem,K]) rfl ⟨by rw[V.out,R.out],M.out.put4 (ak _) _ _ _ _⟩
  |false=>
   rw[hD]at I;by_cases h39:c=39
   ·have V:=O (show iF (c::m)=jZ (c::m) by rw[G.out,hL,if_neg Qd,hD,if_neg Qd,if_pos h39]);obtain⟨k,s,v,n,e,a⟩:=jr (jZ (c::m));have z:=O (BK c m Qa (A.alloc (.cells #[.int i64 0,.string ⟨#[]⟩,.int i64 0,.int i64 0] 206)));rw[a]at z;have R:=O a;have aj:((c.toNat:Int)==39)=true:=by rw[h39];rfl
    clear hL hD G a ab h39;go_enter func97,ntmps97
    go_wp2_with (first
     |(go_at_call 108;refine(X.out _).mono ?_;rintro w w' ⟨rfl,rfl⟩)
     |(go_at_call 140;refine(I.out _).mono ?_;rintro w w' ⟨rfl,rfl⟩)
     |(go_at_call 142;refine z.out.mono ?_;rintro w ae ⟨rfl,j⟩;have o:=O (ad.out.ext j);have M:=O (ac.out.trans j);clear j;have ag:=o.out.cell;have af:=o.out.frozen))
    have K:=(o.out.put4 (.int i64 k) (.string s) (.int i64 v) (.int i64 0)).cell;exact bodyPost_ret (v:=.tuple #[.agg #[.int i64 k,.string s,.int i64 v,.int i64 0],.int i64 n,.int i64 e]) (by simp[results,results97,go_sem,K]) rfl ⟨by rw[V.out,R.out],M.out.put4 (ak _) _ _ _ _⟩
   ·have aj:((c.toNat:Int)==39)=false:=(ef c 39 Qa).trans (Ql.2 h39);by_cases h34:c=34
    ·have V:=O (show iF (c::m)=jM (c::m) by rw[G.out,hL,if_neg Qd,hD,if_neg Qd,if_neg h39,if_pos h34]);obtain⟨k,s,v,n,e,a⟩:=jr (jM (c::m));have z:=O (zE c m Qa (A.alloc (.cells #[.int i64 0,.string ⟨#[]⟩,.int i64 0,.int i64 0] 206)));rw[a]at z;have R:=O a;have al:((c.toNat:Int)==34)=true:=by rw[h34];rfl
     clear hL hD G a ab h39 h34;go_enter func97,ntmps97
     go_wp2_with (first
      |(go_at_call 108;refine(X.out _).mono ?_;rintro w w' ⟨rfl,rfl⟩)
      |(go_at_call 140;refine(I.out _).mono ?_;rintro w w' ⟨rfl,rfl⟩)
      |(go_at_call 143;refine z.out.mono ?_;rintro w ae ⟨rfl,j⟩;have o:=O (ad.out.ext j);have M:=O (ac.out.trans j);clear j;have ag:=o.out.cell;have af:=o.out.frozen))
     have K:=(o.out.put4 (.int i64 k) (.string s) (.int i64 v) (.int i64 0)).cell;exact bodyPost_ret (v:=.tuple #[.agg #[.int i64 k,.string s,.int i64 v,.int i64 0],.int i64 n,.int i64 e]) (by simp[results,results97,go_sem,K]) rfl ⟨by rw[V.out,R.out],M.out.put4 (ak _) _ _ _ _⟩
    ·have V:=O (show iF (c::m)=ja (c::m) by rw[G.out,hL,if_neg Qd,hD,if_neg Qd,if_neg h39,if_neg h34]);obtain⟨k,s,v,n,e,a⟩:=jr (ja (c::m));have z:=O (AM c m Qa (A.alloc (.cells #[.int i64 0,.string ⟨#[]⟩,.int i64 0,.int i64 0] 206)));rw[a]at z;have R:=O a;have al:((c.toNat:Int)==34)=false:=(ef c 34 Qa).trans (Ql.2 h34);clear hL hD G a ab h39 h34;go_enter func97,ntmps97
     go_wp2_with (first
      |(go_at_call 108;refine(X.out _).mono ?_;rintro w w' ⟨rfl,rfl⟩)
      |(go_at_call 140;refine(I.out _).mono ?_;rintro w w' ⟨rfl,rfl⟩)
      |(go_at_call 144;refine z.out.mono ?_;rintro w ae ⟨rfl,j⟩;have o:=O (ad.out.ext j);have M:=O (ac.out.trans j);clear j;have ag:=o.out.cell;have af:=o.out.frozen))
     have K:=(o.out.put4 (.int i64 k) (.string s) (.int i64 v) (.int i64 0)).cell;exact bodyPost_ret (v:=.tuple #[.agg #[.int i64 k,.string s,.int i64 v,.int i64 0],.int i64 n,.int i64 e]) (by simp[results,results97,go_sem,K]) rfl ⟨by rw[V.out,R.out],M.out.put4 (ak _) _ _ _ _⟩
def gN (t:bT):List Value:=[.int i64 t.k,.string (J t.t),.int i64 t.v,.int i64 t.f]
def lM (ts:List bT):List Value:=ts.flatMap gN
theorem xR (a b:List bT):lM (a++b)=lM a++lM b:=by simp[lM]
def iR (w:World) (base:Nat) (e:TypeId) (v:Value) (ts:List bT):Prop:=w.ownsRow base e 4 v ts.length (lM ts)
theorem iR.nil_ (a:World) (base:Nat) (e:TypeId):iR a base e (.slice none 0 0) []:=World.ownsRow_nil a base e 4
theorem iR.form {j:World} {base:Nat} {e:TypeId} {v:Value} {a:List bT} (w:iR j base e v a): ∃z h,v=.slice z a.length h:=by
 rcases w.2 with⟨rfl,o⟩|⟨g,h,cur,rfl,_⟩
 ·exact⟨none,0,by rw[o]⟩
 ·exact⟨_,_,rfl⟩
theorem iR.grown {a w':World} {base:Nat} {e:TypeId} {v:Value} {h:List bT} {row:Option Nat} (w:iR a base e v h) (o:a.grownBy w' row) (j:v.ownBlock=none\/v.ownBlock≠row):iR w' base e v h:=World.ownsRow.kept w o j
theorem iR.ext {a w':World} {base:Nat} {e:TypeId} {v:Value} {h:List bT} (o:iR a base e v h) (j:az a w'):iR w' base e v h:=o.grown (j.grownBy none) (by cases v.ownBlock<;>simp)
structure FE (P:Program) (t e:TypeId):Prop where
 under:P.underlying t=some (.slice e)
 info:(P.info? e).map (λi=>(i.zero,i.size,i.bytes))=some (some (.agg #[.int i64 0,.string ⟨#[]⟩,.int i64 0,.int i64 0]),4,40)
theorem tC {P:Program} {w:World} {t e:TypeId} (A:FE P t e) (o:TypeId) (base:Nat) (v:Value) (a:List bT) (X:iR w base e v a) (g:Nat) (x:bT)
  (ad:w.heap[g]? =some (.cells #[.int i64 x.k,.string (J x.t),.int i64 x.v,.int i64 x.f] e (0,0))) (ah:a.length<=1073741824) (ae:base<=w.heap.size):
  ∃h cap' w',(Builtin.append_ #[t,t] o #[v,.slice (some ⟨g,0,none⟩) 1 1]).run P w=.ok (.slice h (a.length+1) cap') w'/\iR w' base e (.slice h (a.length+1) cap') (a++[x])/\w.grownBy w' v.ownBlock/\
   (Value.ownBlock (.slice h (a.length+1) cap')=v.ownBlock\/Value.ownBlock (.slice h (a.length+1) cap')=some w.heap.size):=by
 obtain⟨i,ab,V,R,O⟩:=info_parts A.info;obtain⟨K,w',z,ag,af,_,G⟩:=run_append_own_at (P:=P) w base t o e i (.agg #[.int i64 0,.string ⟨#[]⟩,.int i64 0,.int i64 0]) 4 40 A.under ab V R O rfl Qc v a.length (lM a) X ⟨g,0,none⟩ 1 1 (gN x) rfl
  (λM y I=>by
   rw[Addr.add_lit,aG,cell_of_row w g M _ e (0,0) ad]
   simpa[gN]using I) (by simp[gN,Value.oneCell']) Qi Qa ae
 have j:iR w' base e K (a++[x]):=by
  unfold iR;rw[ac,xR];simpa[lM]using ag
 obtain⟨h,cap',rfl⟩:=j.form;rw[ac]at j z G;exact⟨h,cap',w',z,j,af,G⟩
theorem pk {P:Program} {a:World} {ops:Array Oper} {rest:List Oper} {o:Oper} {w:Act} {Q:Exit->Act->World->Prop} {t e:TypeId} (I:FE P t e) (O:o.guard=none) (s x:Operand)
  (M:o.op=.call {callee:=.builtin .append,args:= #[s,x],argTypes:= #[t,t]}) (base:Nat) (v:Value) (h:List bT) (A:w.eval s=v) (K:iR a base e v h)
  (g:Nat) (y:bT) (z:w.eval x=.slice (some ⟨g,0,none⟩) 1 1) (R:a.heap[g]? =some (.cells #[.int i64 y.k,.string (J y.t),.int i64 y.v,.int i64 y.f] e (0,0))) (X:h.length<=1073741824) (V:base<=a.heap.size)
  (af: ∀j cap' w',iR w' base e (.slice j (h.length+1) cap') (h++[y])->a.grownBy w' v.ownBlock->
   (Value.ownBlock (.slice j (h.length+1) cap')=v.ownBlock\/Value.ownBlock (.slice j (h.length+1) cap')=some a.heap.size)->wpList P ops Q rest (w.put o.dst (.slice j (h.length+1) cap')) w'):
  wpList P ops Q (o::rest) w a:=by
 obtain⟨j,cap',w',G,ae,ad,ac⟩:=tC (P:=P) (w:=a) I o.type base v h K g y R X V;refine wpList_plain O λag ab=> ?_;unfold Oper.wp execOp;simp only[M,resolve,invoke,builtin,Sem.run_bind,Sem.run_pure,Result.andThen_ok,dQ,bF,cY,A,z,G];exact ab _ _ (af j cap' w' ae ad ac)
theorem tt:FE prog 147 206:=⟨underlying147,by kernel_rfl⟩
theorem tT: ∀(f:Nat) (m:List UInt8) (t:List UInt8) (n:Nat),oS f m=some (t,n)->1<=n/\n<=m.length
 |0,m,t,n,h=>by cases h
 |f+1,[],t,n,h=>by cases h
 |f+1,c::r,t,n,h=>by
  simp only[oS]at h;split at h
  ·cases h;exact⟨ak _,by simp⟩
  ·split at h
   ·cases h
   ·obtain⟨⟨a,j⟩,w,o⟩:=Option.map_eq_some_iff.1 h
    cases o;have:=tT f _ a j w;have z:=l9 (c::r);rw[bD]at this;omega
theorem ol {l:List UInt8} {c:UInt8} (a:l.head? =some c):1<=l.length:=by cases l<;>simp at a⊢
theorem pq {c:UInt8} {r:List UInt8} {x:Int×List UInt8×Int} {n:Nat} (a:iF (c::r)=.ok (x,n)):1<=n/\n<=(c::r).length:=by
 have o:io c=true->1<=cm fd (c::r):=λa=>by simp[cm,fd,a]
 have K:eG c=true->1<=cm eG (c::r):=λa=>by simp[cm,a]
 have j:=jx fd (c::r);have G:=jx eG (c::r);simp only[iF]at a;split at a
 ·rename_i w;unfold kh at a;split at a
  ·cases a;exact⟨o w,j⟩
  ·split at a
   ·cases a
   ·cases a;exact⟨o w,j⟩
 ·split at a
  ·rename_i M;unfold ji at a;split at a
   ·cases a
   ·split at a
    ·cases a
    ·cases a;exact⟨K M,G⟩
  ·split at a
   ·unfold jZ at a;split at a
    ·cases a
    ·rename_i h
     cases a;have O:((c::r).drop ((cA ((c::r).drop 1)).2+1)).head? =some 39:=by
      refine Classical.byContradiction λz=>h (.inr (.inr z))
     have:=ol O;rw[bD]at this;omega
   ·split at a
    ·unfold jM at a;split at a
     ·cases a
     ·rename_i t V A;split at a
      ·cases a
      ·cases a;have:=tT _ _ _ _ A;rw[bD]at this;omega
    ·unfold ja at a;split at a
     ·rename_i h
      cases a;have: ∀t∈two,t.length=2:=Qc
      have R:((c::r).take 2).length=2:=this _ (List.contains_iff_mem.1 h);rw[bN]at R;omega
     ·split at a
      ·cases a;exact⟨ak _,by simp⟩
      ·cases a
theorem zA {c:UInt8} {r:List UInt8} {e:Int} (a:iF (c::r)=.error e):e=3\/e=2\/e=6:=by
 simp only[iF]at a;unfold kh ji jZ jM ja at a;repeat' split at a
 all_goals cases a
 all_goals first|exact .inl rfl|exact .inr (.inl rfl)|exact .inr (.inr rfl)
def mM (ts:List bT):Except (Nat×Int) (List bT)->Except (Nat×Int) (List bT)
 | .error e=> .error e
 | .ok us=> .ok (ts++us)
theorem uG (l:List UInt8):nV l=mM [] (gT (l.length+1) (l.drop 0) 0):=by
 unfold nV;rw[au]
 cases gT (l.length+1) l 0<;>simp[mM]
theorem zx {l:List UInt8} {f p:Nat} {a:List bT} (j:nV l=mM a (gT (f+1) (l.drop p) p)) (h:l.length<=p+cJ false (l.drop p)):nV l=.ok a:=by
 rw[j];have:(l.drop p).drop (cJ false (l.drop p))=[]:=by
  rw[eI];exact aL h
 simp only[gT,this,mM,cT]
theorem zw {l:List UInt8} {f p q:Nat} {h:List bT} {c:UInt8} {r:List UInt8} {e:Int} (w:nV l=mM h (gT (f+1) (l.drop p) p)) (a:q=p+cJ false (l.drop p)) (o:l.drop q=c::r) (j:iF (c::r)=.error e):nV l=.error (q,e):=by
 rw[w];have:(l.drop p).drop (cJ false (l.drop p))=c::r:=by
  rw[eI,<-a,o]
 simp only[gT,this,j,mM,a]
theorem xN {l:List UInt8} {f p q:Nat} {a:List bT} {c:UInt8} {r:List UInt8} {k:Int} {t:List UInt8} {v:Int} {n:Nat} (A:nV l=mM a (gT (f+1) (l.drop p) p)) (h:q=p+cJ false (l.drop p)) (j:l.drop q=c::r)
  (o:iF (c::r)=.ok ((k,t,v),n)):nV l=mM (a++[⟨k,t,v,(q:Nat)⟩]) (gT f (l.drop (q+n)) (q+n)):=by
 rw[A];have z:(l.drop p).drop (cJ false (l.drop p))=c::r:=by
  rw[eI,<-h,j]
 have w:l.drop (q+n)=(c::r).drop n:=by rw[<-j,eI]
 rw[w];simp only[gT,z,o,<-h]
 cases gT f ((c::r).drop n) (q+n)<;>simp[mM]
def xA (ty:TypeId) (base:Nat) (r:List bT×Int×Int) (e:Ending) (w':World):Prop:=
 ∃A cap,e=.returned (.tuple #[.slice A r.1.length cap,.int i64 r.2.1,.int i64 r.2.2])/\iR w' base ty (.slice A r.1.length cap) r.1
theorem qJ (l:List UInt8) (a:4000<l.length):gG l=([],4000,6):=by unfold gG;rw[if_pos a]
theorem zy (l:List UInt8) (a:List bT) (j: ¬4000<l.length) (h:nV l=.ok a):gG l=(a,0,0):=by unfold gG;rw[if_neg j,h]
theorem xO (l:List UInt8) (p:Nat) (e:Int) (h: ¬4000<l.length) (a:nV l=.error (p,e)):gG l=([],(p:Int),e):=by unfold gG;rw[if_neg h,a]
theorem Co (a:World) (e:TypeId) (x:bT):((a.alloc (.cells #[.int i64 x.k,.string (J x.t),.int i64 x.v,.int i64 x.f] e)).alloc (.cells #[.int i64 x.k,.string (J x.t),.int i64 x.v,.int i64 x.f] e)).heap[a.heap.size+1]? =some (.cells #[.int i64 x.k,.string (J x.t),.int i64 x.v,.int i64 x.f] e (0,0)):=by
 have:=heap_alloc_new (a.alloc (.cells #[.int i64 x.k,.string (J x.t),.int i64 x.v,.int i64 x.f] e)) (.cells #[.int i64 x.k,.string (J x.t),.int i64 x.v,.int i64 x.f] e);rwa [World.size_alloc]at this
theorem uH (l:List UInt8) (a1:l.length<=100000) (a:World) (af:EZ a):Calls prog 58 #[.string (J l)] a λe w'=>xA 206 a.heap.size (gG l) e w'/\az a w':=by
 have ah:(J l).size=l.length:=bm l;have an:=O af;clear af;have aH:=O (qJ l);have aF:=O (zy l);have aG:=O (xO l);by_cases hbig:4000<l.length
 ·have aC:(4000:Int)<l.length:=Qa
  go_enter func58,ntmps58;go_wp2_with fail;exact bodyPost_ret (v:=.tuple #[.slice none 0 0,.int i64 4000,.int i64 6]) (by simp[results,results58,go_sem]) rfl ⟨by rw[aH.out hbig];exact⟨none,0,rfl,iR.nil_ _ _ _⟩,aS _⟩
 ·have aC: ¬(4000:Int)<l.length:=Qa
  go_enter func58,ntmps58;go_wp2_with fail
  go_loopw [2,3] (λar I wr=> ∃(B:Option Addr) (z:Nat) (j:List bT) (p f:Nat),ar=.slice B j.length z/\iR wr a.heap.size 206 (.slice B j.length z) j/\I=.int i64 (p:Int)/\p<=l.length/\j.length<=p/\l.length+1<=f+p/\
   Hid (nV l=mM j (gT f (l.drop p) p))/\az a wr) (λ_ I _=>l.length+1-(intOf I).toNat)
  case atStart=>exact⟨none,0,[],0,l.length+1,rfl,iR.nil_ _ _ _,rfl,aI _,ak _,by omega,O (uG l),aS _⟩
  case round=>
   obtain⟨B,z,j,p,f,rfl,ai,rfl,aw,aP,a2,G,ag⟩:=hrel;obtain⟨f,rfl⟩: ∃g,f=g+1:=⟨f-1,by omega⟩
   have ap:=O ai;have R:=O ag;clear ai ag;have aV:p<=(J l).size:=by rw[ah];exact aw
   have a3:(J l).extract p l.length=J (l.drop p):=by
    have:=fK l p l.length;rw[bC (ak _)]at this;exact this
   have ae:=O (λa=>yX (l.drop p) (by rw[bD];omega) a);have aQ:p+cJ false (l.drop p)<=l.length:=by have:=lP false (l.drop p);rw[bD]at this;omega
   obtain⟨q,M⟩: ∃q,q=p+cJ false (l.drop p):=⟨_,rfl⟩
   have aU:(p:Int)+(cJ false (l.drop p):Int)=(q:Int):=Qa
   by_cases hend:l.length<=q
   ·have V:=O (zx G.out Qa);have aT:q=l.length:=Qa
    have aA:(l.length:Int)<=q:=Qa
    generalize cJ false (l.drop p)=s at*;clear M G;go_wp2_with (go_at_call 96;refine(ae.out _).mono ?_;rintro e w' ⟨rfl,rfl⟩);exact bodyPost_ret (v:=.tuple #[.slice B j.length z,.int i64 0,.int i64 0]) (by simp[results,results58,go_sem]) rfl ⟨by rw[aF.out _ hbig V.out];exact⟨B,z,rfl,ap.out⟩,R.out⟩
   ·have aA: ¬(l.length:Int)<=q:=Qa
    have aR:q<=(J l).size:=by rw[ah];omega
    have ay:(J l).extract q l.length=J (l.drop q):=by
     have:=fK l q l.length;rw[bC (ak _)]at this;exact this
    obtain⟨c,r,o⟩: ∃c r,l.drop q=c::r:=by
     cases ad:l.drop q with
     |nil=>have:=congrArg List.length ad;rw[bD]at this;simp at this;omega
     |cons c r=>exact⟨c,r,rfl⟩
    have aZ:(c::r).length=l.length-q:=by rw[<-o,bD]
    rw[o]at ay;have A:=O (λa ad=>xP c r Qa a ad)
    cases ht:iF (c::r)with
    |error e=>
     have V:=O (zw G.out M o ht);have aB:e=3\/e=2\/e=6:=zA ht;rw[ht]at A;have K:cX (.error e)=.tuple #[.agg #[.int i64 0,.string ⟨#[]⟩,.int i64 0,.int i64 0],.int i64 0,.int i64 e]:=rfl;rw[K]at A;have ax: ¬e=0:=Qa
     have aW:(e==0)=false:=by simp[ax]
     generalize cJ false (l.drop p)=s at*;clear M G ht o K aB
     go_wp2_with (first
      |(go_at_call 96;refine(ae.out _).mono ?_;rintro e w' ⟨rfl,rfl⟩)
      |(go_at_call 97;refine(A.out _ (an.out.ext R.out)).mono ?_;rintro aD X ⟨rfl,w⟩;have aM:=O (R.out.trans w);clear w))
     exact bodyPost_ret (v:=.tuple #[.slice none 0 0,.int i64 q,.int i64 e]) (by simp[results,results58,go_sem]) rfl ⟨by rw[aG.out _ _ hbig V.out];exact⟨none,0,rfl,iR.nil_ _ _ _⟩,aM.out.alloc' _⟩
    |ok y=>
     obtain⟨⟨k,t,v⟩,n⟩:=y;have V:=O (xN G.out M o ht);obtain⟨aY,aX⟩:=pq ht;rw[ht]at A;have K:cX (.ok ((k,t,v),n))=.tuple #[.agg #[.int i64 k,.string (J t),.int i64 v,.int i64 0],.int i64 (n:Int),.int i64 0]:=rfl;rw[K]at A;generalize cJ false (l.drop p)=s at*;clear M G ht o K
     go_wp2_with (first
      |(go_at_call 96;refine(ae.out _).mono ?_;rintro e w' ⟨rfl,rfl⟩)
      |(go_at_call 97;refine(A.out _ (an.out.ext R.out)).mono ?_;rintro aD X ⟨rfl,w⟩;have aq:=O (R.out.trans ((w.alloc' (.cells #[.int i64 k,.string (J t),.int i64 v,.int i64 (q:Int)] 206)).alloc' (.cells #[.int i64 k,.string (J t),.int i64 v,.int i64 (q:Int)] 206)));have ao:=O (ap.out.ext ((w.alloc' (.cells #[.int i64 k,.string (J t),.int i64 v,.int i64 (q:Int)] 206)).alloc' (.cells #[.int i64 k,.string (J t),.int i64 v,.int i64 (q:Int)] 206)));have aL:=O (Co X 206 ⟨k,t,v,(q:Int)⟩);clear w)
      |(at_builtin;refine pk tt rfl _ _ rfl a.heap.size (.slice B j.length z) j rfl ao.out (X.heap.size+1) ⟨k,t,v,(q:Int)⟩ rfl aL.out Qa aq.out.size ?_;intro aN aE aO aj al _;have aJ:=O aj;have aK:=O al;clear aj al))
     go_roundw
     case rel=>
      have av:=λk ab=>(World.ownsRow.lt ao.out k ab).1;have au:=aq.out.grown aK.out (λk ab=>by have:=av k ab;omega);refine⟨aN,aE,j++[⟨k,t,v,(q:Int)⟩],q+n,f,by rw[ac];rfl,?_,by go_num,by omega,by rw[ac];simp;omega,by omega,V,au⟩;rw[ac];exact aJ.out
     case measure=>simp[intOf];omega
theorem eh (a b:List UInt8):J a++J b=J (a++b):=by
 apply j8;simp[J]
end
end Go.Proofs.YtddomeddabfinaaGreatDoor
