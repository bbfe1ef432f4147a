/-
  Parts of the proof: VrG VrH VrJ VrK.
-/
import Derived.Test.YtddomeddabfinaaGreatDoorTu00
import Derived.Test.YtddomeddabfinaaGreatDoorTu47
import Derived.Test.YtddomeddabfinaaGreatDoorTu15
import Derived.Test.YtddomeddabfinaaGreatDoorTu34
set_option maxRecDepth 100000
set_option maxHeartbeats 8000000
set_option linter.unusedVariables false
set_option linter.unusedSimpArgs false
set_option linter.unusedSectionVars false
namespace Go.Proofs.YtddomeddabfinaaGreatDoor
open Go.Proofs.Tryz
section
open Go.RowKit
theorem rQ {w:World} {P:Nat->Prop} {A:Option Addr} {n c:Nat} {ls:List Vr} (h:fH w P (.slice A n c) ls):n<=9223372036854775807:=by
 obtain⟨A',c',hv,h⟩:=h;injection hv with _ hn _;rcases h with h|⟨h1,h2,_⟩
 ·rw[hn,h];exact az _
 ·unfold maxLen at h2;omega
theorem rT {w:World} {P:Nat->Prop} {A:Option Addr} {n c:Nat} {ls:List Fc} (h:fO w P (.slice A n c) ls):n<=9223372036854775807:=by
 obtain⟨A',c',hv,h⟩:=h;injection hv with _ hn _;rcases h with h|⟨h1,h2,_⟩
 ·rw[hn,h];exact az _
 ·unfold maxLen at h2;omega
theorem rS {w:World} {P:Nat->Prop} {A:Option Addr} {n c:Nat} {ls:List (List UInt8)} (h:j7 w P (.slice A n c) ls):n<=9223372036854775807:=by
 obtain⟨A',c',hv,h⟩:=h;injection hv with _ hn _;rcases h with h|⟨h1,h2,_⟩
 ·rw[hn,h];exact az _
 ·unfold maxLen at h2;omega
theorem yt (v:Vr) (h: ¬0<v.sz):fR v=[118,97,114,32]++v.nm++[59,10]:=by unfold fR;rw[if_neg h,cO];rfl
theorem yr (v:Vr) (h:0<v.sz):fR v=[118,97,114,32]++v.nm++([91]++eD v.sz.toNat++[93])++[59,10]:=by unfold fR;rw[if_pos h];rfl
theorem wR (f:Fc):gE f=[102,117,110,99,32]++f.nm++[40]++bT [44,32] f.ps++([41,32]++co 0 (a6 f.body 1)++[10]):=by unfold gE;simp only[aA];rfl
theorem tq (l:List (List UInt8)) (j:Nat) (h:j<l.length):bT [44,32] (l.take (j+1))=bT [44,32] (l.take j)++((if j=0 then[]else[44,32])++l[j]):=by
 rw[aD h,kr];by_cases hj:j=0
 ·subst hj;simp
 ·rw[if_neg hj,if_neg (fun e=>by rw[fP]at e;rcases e with e|e;exact hj e;rw[e]at h;simp at h)]
theorem xA (l:List (List UInt8)) (j:Nat):(bT [44,32] (l.take j)).length<=(bT [44,32] l).length:=by
 conv=>rhs;rw[<-bB j l]
 cases l.take j with
 |nil=>simp[bT]
 |cons a r=>simp[bT]
theorem sX (p:Pg) (hok: ∀f,f∈p.fs->iM f.body=true) (hsz: ∀v,v∈p.vs->v.sz<=2147483647) (P:Nat->Prop) (w:World) (A B:Option Addr) (n c m d:Nat) (hV:fH w P (.slice A n c) p.vs) (hF:fO w P (.slice B m d) p.fs) (hl:(gh p).length<=1000000000):
  Calls prog 80 #[.agg #[.slice A n c, .slice B m d]] w fun e w'=>e= .returned (.string (ag (gh p)))/\au w w':=by
 obtain⟨vs,fs⟩:=p;simp only at*;have HT:=G (show vs.flatMap fR++fs.flatMap gE=gh ⟨vs,fs⟩from rfl);have hlen:=congrArg List.length HT.out;rw[aa]at hlen;generalize gh ⟨vs,fs⟩=R at*;have HN:=G (rR hV);have HM:=G (rU hF);have hnm:=rQ hV;have hmm:=rT hF;have HV:=G hV;have HF:=G hF;have HOK:=G hok;have HSZ:=G hsz;have HL:=G (aq hlen hl);clear hlen hl hV hF hok hsz;have HE:=G (O w (.cells #[.slice A n c, .slice B m d] 25));have HB:=G (ax w 25 #[.slice A n c, .slice B m d]);go_enter func80,ntmps80;go_wp2_with fail
 go_loopw [3,4] (fun vs_ vi wr=> ∃(j:Nat) (J:List UInt8),vi= .int .i64 (j:Int)/\vs_= .string (ag J)/\j<=n/\Hid (J=(vs.take j).flatMap fR)/\Hid (au (w.alloc (.cells #[.slice A n c, .slice B m d] 25)) wr)) (fun _ vi _=>n-(intOf vi).toNat)
 case atStart=>exact⟨0,[],rfl,rfl,az _,G rfl,G (aH _)⟩
 case round=>
  obtain⟨j,J,rfl,rfl,hj,HJ,HZ⟩:=hrel;have f1:=(HB.out.ext HZ.out).cell;have sJ:(ag J).size=J.length:=aL J;by_cases hlt:j<n
  ·have hlt':(j:Int)<n:=by omega
   have hjl:j<vs.length:=by have:=HN.out;omega
   obtain⟨bj,oj,rfl,hbj,y0,y1⟩:=uE HV.out j hjl;have e0:=((HE.out.trans HZ.out).cell bj _ hbj).trans y0;have e1:=((HE.out.trans HZ.out).cell bj _ hbj).trans y1;have hT1:=eC fR vs j hjl;have hT2:=eS fR vs (j+1);have hs1:=HSZ.out _ (ai hjl);have hJl:=congrArg List.length HJ.out;have hlR:=HL.out;clear y0 y1;generalize vs[j]=v at*;by_cases hs:0<v.sz
   ·rw[yr v hs]at hT1;have hTl:=congrArg List.length hT1;simp only[aa,ac,ah]at hTl;have HD:=G (fun w=>lD 9 v.sz.toNat w (by omega) (by omega));rw[Int.toNat_of_nonneg (by omega)]at HD;obtain⟨nm,sz⟩:=v;simp only at*;generalize eD sz.toNat=D at*;obtain⟨z1,Hz1,qz1,bz1,Lz1,kz1,kaz1,kbz1⟩:=ct (A:=(⟨#[118,97,114,32]⟩:ByteArray)) (B:=(ag nm)) [118,97,114,32] nm rfl rfl 4 nm.length rfl rfl (by omega);obtain⟨z2,Hz2,qz2,bz2,Lz2,kz2,kaz2,kbz2⟩:=ct (A:=(ag J)) (B:=(ag z1)) J z1 rfl rfl J.length z1.length rfl rfl (by have:=Lz1.out;omega);obtain⟨z3,Hz3,qz3,bz3,Lz3,kz3,kaz3,kbz3⟩:=ct (A:=(⟨#[91]⟩:ByteArray)) (B:=(ag D)) [91] D rfl rfl 1 D.length rfl rfl (by have:=Lz1.out;have:=Lz2.out;omega);obtain⟨z4,Hz4,qz4,bz4,Lz4,kz4,kaz4,kbz4⟩:=ct (A:=(ag z3)) (B:=(⟨#[93]⟩:ByteArray)) z3 [93] rfl rfl z3.length 1 rfl rfl (by have:=Lz1.out;have:=Lz2.out;have:=Lz3.out;omega);obtain⟨z5,Hz5,qz5,bz5,Lz5,kz5,kaz5,kbz5⟩:=ct (A:=(ag z2)) (B:=(ag z4)) z2 z4 rfl rfl z2.length z4.length rfl rfl (by have:=Lz1.out;have:=Lz2.out;have:=Lz3.out;have:=Lz4.out;omega);obtain⟨z6,Hz6,qz6,bz6,Lz6,kz6,kaz6,kbz6⟩:=ct (A:=(ag z5)) (B:=(⟨#[59,10]⟩:ByteArray)) z5 [59,10] rfl rfl z5.length 2 rfl rfl (by have:=Lz1.out;have:=Lz2.out;have:=Lz3.out;have:=Lz4.out;have:=Lz5.out;omega);have HJ2:=G (show z6=(vs.take (j+1)).flatMap fR by rw[hT1,<-HJ.out,<-Hz6.out,<-Hz5.out,<-Hz4.out,<-Hz3.out,<-Hz2.out,<-Hz1.out];simp only[aA]);clear hT1 hT2 HJ hJl hTl hlR hs1;go_wp2_with (go_at_call 127;refine(HD.out _).mono ?_;rintro e w3 ⟨rfl,rfl⟩;clear HD);go_roundw
    case rel=>exact⟨j+1,z6,by go_num,rfl,by omega,HJ2,HZ⟩
    case measure=>simp[intOf];omega
   ·rw[yt v hs]at hT1;have hTl:=congrArg List.length hT1;simp only[aa,ac,ah]at hTl;obtain⟨nm,sz⟩:=v;simp only at*;obtain⟨z1,Hz1,qz1,bz1,Lz1,kz1,kaz1,kbz1⟩:=ct (A:=(⟨#[118,97,114,32]⟩:ByteArray)) (B:=(ag nm)) [118,97,114,32] nm rfl rfl 4 nm.length rfl rfl (by omega);obtain⟨z2,Hz2,qz2,bz2,Lz2,kz2,kaz2,kbz2⟩:=ct (A:=(ag J)) (B:=(ag z1)) J z1 rfl rfl J.length z1.length rfl rfl (by have:=Lz1.out;omega);obtain⟨z3,Hz3,qz3,bz3,Lz3,kz3,kaz3,kbz3⟩:=ct (A:=(ag z2)) (B:=(⟨#[59,10]⟩:ByteArray)) z2 [59,10] rfl rfl z2.length 2 rfl rfl (by have:=Lz1.out;have:=Lz2.out;omega);have HJ2:=G (show z3=(vs.take (j+1)).flatMap fR by rw[hT1,<-HJ.out,<-Hz3.out,<-Hz2.out,<-Hz1.out];simp only[aA]);clear hT1 hT2 HJ hJl hTl hlR hs1;go_wp2_with fail;go_roundw
    case rel=>exact⟨j+1,z3,by go_num,rfl,by omega,HJ2,HZ⟩
    case measure=>simp[intOf];omega
  ·have hlt': ¬(j:Int)<n:=by omega
   have hjn:j=n:=by omega
   have hQ:vs.take j=vs:=aJ (by have:=HN.out;omega);rw[hQ]at HJ;have HJv:=G HJ.out;clear hQ HJ HV HSZ;go_wp2_with fail;clear f1
   go_loopw [3,5] (fun vs_ vi wq=> ∃(k:Nat) (K:List UInt8),vi= .int .i64 (k:Int)/\vs_= .string (ag K)/\k<=m/\Hid (K=J++(fs.take k).flatMap gE)/\Hid (au wr wq)) (fun _ vi _=>m-(intOf vi).toNat)
   case atStart=>exact⟨0,J,rfl,rfl,az _,G (by simp),G (aH _)⟩
   case round=>
    obtain⟨k,K,rfl,rfl,hk,HK,HQ⟩:=hrel;have f1:=(HB.out.ext (HZ.out.trans HQ.out)).cell;have HG:=G (HE.out.trans (HZ.out.trans HQ.out));have sK:(ag K).size=K.length:=aL K;by_cases hkt:k<m
    ·have hkt':(k:Int)<m:=by omega
     have hkl:k<fs.length:=by have:=HM.out;omega
     obtain⟨bj,oj,pv,bv,rfl,hbj,y0,y1,y2,hRn,hRs⟩:=uG HF.out k hkl;have e0:=(HG.out.cell bj _ hbj).trans y0;have e1:=(HG.out.cell bj _ hbj).trans y1;have e2:=(HG.out.cell bj _ hbj).trans y2;have hT1:=eC gE fs k hkl;have hT2:=eS gE fs (k+1);have hok:=HOK.out _ (ai hkl);have hKl:=congrArg List.length HK.out;have hJl:=congrArg List.length HJv.out;have hlR:=HL.out;clear y0 y1 y2;generalize fs[k]=f at*;rw[wR]at hT1;have hTl:=congrArg List.length hT1;simp only[aa,ac,ah]at hTl hKl;obtain⟨nm,ps,body⟩:=f;simp only at*;obtain⟨Ap,cp,rfl⟩:=pE hRn;obtain⟨Ab,cb,rfl,_⟩:=hRs.form;have HCb:=G (fun W (hW:au w W)=>xa hok P W _ 0 (hRs.keep (.of_ext hW) (fun _ hb _=>hb)) (by simp only[a8];omega));simp only[a8]at HCb;rw[show ag (dr 0)=(⟨#[]⟩:ByteArray)from rfl]at HCb;have hpm:=rS hRn;have HRn:=G hRn;have hjl2:=fun i=>xA ps i;have HjL:=G hjl2;have HjE:=G (tq ps);clear hRn hRs hok hjl2;generalize co 0 (a6 body 1)=BL at*;generalize body.length=nb at*;obtain⟨z1,Hz1,qz1,bz1,Lz1,kz1,kaz1,kbz1⟩:=ct (A:=(⟨#[102,117,110,99,32]⟩:ByteArray)) (B:=(ag nm)) [102,117,110,99,32] nm rfl rfl 5 nm.length rfl rfl (by omega);obtain⟨z2,Hz2,qz2,bz2,Lz2,kz2,kaz2,kbz2⟩:=ct (A:=(ag z1)) (B:=(⟨#[40]⟩:ByteArray)) z1 [40] rfl rfl z1.length 1 rfl rfl (by have:=Lz1.out;omega);obtain⟨z3,Hz3,qz3,bz3,Lz3,kz3,kaz3,kbz3⟩:=ct (A:=(ag K)) (B:=(ag z2)) K z2 rfl rfl K.length z2.length rfl rfl (by have:=Lz1.out;have:=Lz2.out;omega);have HNp:=G (show ps.length=ps.length from rfl);have hK2:z3.length+(bT [44,32] ps).length+BL.length+3<=1000000000:=by have:=Lz1.out;have:=Lz2.out;have:=Lz3.out;omega
     have HT1:=G hT1;clear hT1 hT2 hTl hKl hJl hlR;obtain⟨np,hnp⟩: ∃np,ps.length=np:=⟨_,rfl⟩
     have HNP:=G hnp;rw[hnp]at e1 HRn hpm;have HB5:=G (ax wr 63 #[.string (ag nm), .slice Ap np cp, .slice Ab nb cb]);have HE5:=G (O wr (.cells #[.string (ag nm), .slice Ap np cp, .slice Ab nb cb] 63));try simp only[hnp]
     clear hnp;go_wp2_with fail;clear f1 e0 e1 e2
     go_loopw [3,7] (fun vs_ vi wz=> ∃(i:Nat) (I:List UInt8),vi= .int .i64 (i:Int)/\vs_= .string (ag I)/\i<=np/\Hid (I=z3++bT [44,32] (ps.take i))/\Hid (au (wr.alloc (.cells #[.string (ag nm), .slice Ap np cp, .slice Ab nb cb] 63)) wz)) (fun _ vi _=>np-(intOf vi).toNat)
     case atStart=>exact⟨0,z3,rfl,rfl,az _,G (by simp[bT]),G (aH _)⟩
     case round=>
      obtain⟨i,I,rfl,rfl,hi,HI,HY⟩:=hrel;have f5:=(HB5.out.ext HY.out).cell;have HGY:=G (HG.out.trans (HE5.out.trans HY.out));have sI:(ag I).size=I.length:=aL I;have hIl:=congrArg List.length HI.out;rw[aa]at hIl;by_cases hit:i<np
      ·have hit':(i:Int)<np:=by omega
       have hil:i<ps.length:=by have:=HNP.out;omega
       obtain⟨b3,o3,rfl,hb3,p0⟩:=qQ HRn.out i hil;have g0:=(HGY.out.cell b3 _ hb3).trans p0;have hE1:=HjE.out i hil;have hL1:=HjL.out (i+1);clear p0;generalize ps[i]=s at*;by_cases hi0:i=0
       ·subst hi0;simp only[bg]at g0;rw[if_pos rfl,fX]at hE1;have hEl:=congrArg List.length hE1;rw[aa]at hEl;obtain⟨y1,Hy1,qy1,by1,Ly1,ky1,kay1,kby1⟩:=ct (A:=(ag I)) (B:=(ag s)) I s rfl rfl I.length s.length rfl rfl (by omega);have HI2:=G (show y1=z3++bT [44,32] (ps.take (0+1)) by rw[hE1,<-aA,<-HI.out,Hy1.out]);clear hE1 hL1 hEl hIl HI hK2;go_wp2_with fail;go_roundw
        case rel=>exact⟨1,y1,rfl,rfl,by omega,HI2,HY⟩
        case measure=>simp[intOf];omega
       ·have hi1:(0:Int)<i:=by omega
        rw[if_neg hi0]at hE1;have hEl:=congrArg List.length hE1;simp only[aa,ac,ah]at hEl;obtain⟨y1,Hy1,qy1,by1,Ly1,ky1,kay1,kby1⟩:=ct (A:=(ag I)) (B:=(⟨#[44,32]⟩:ByteArray)) I [44,32] rfl rfl I.length 2 rfl rfl (by omega);obtain⟨y2,Hy2,qy2,by2,Ly2,ky2,kay2,kby2⟩:=ct (A:=(ag y1)) (B:=(ag s)) y1 s rfl rfl y1.length s.length rfl rfl (by have:=Ly1.out;omega);have HI2:=G (show y2=z3++bT [44,32] (ps.take (i+1)) by rw[hE1,<-aA,<-HI.out,<-Hy2.out,<-Hy1.out,aA]);clear hE1 hL1 hEl hIl HI hK2;go_wp2_with fail;go_roundw
        case rel=>exact⟨i+1,y2,by go_num,rfl,by omega,HI2,HY⟩
        case measure=>simp[intOf];omega
      ·have hit': ¬(i:Int)<np:=by omega
       have hin:i=np:=by omega
       have hQ:ps.take i=ps:=aJ (by have:=HNP.out;omega);rw[hQ]at HI;have hIl:=congrArg List.length HI.out;rw[aa]at hIl;obtain⟨y1,Hy1,qy1,by1,Ly1,ky1,kay1,kby1⟩:=ct (A:=(⟨#[41,32]⟩:ByteArray)) (B:=(ag BL)) [41,32] BL rfl rfl 2 BL.length rfl rfl (by omega);obtain⟨y2,Hy2,qy2,by2,Ly2,ky2,kay2,kby2⟩:=ct (A:=(ag y1)) (B:=(⟨#[10]⟩:ByteArray)) y1 [10] rfl rfl y1.length 1 rfl rfl (by have:=Ly1.out;omega);obtain⟨y3,Hy3,qy3,by3,Ly3,ky3,kay3,kby3⟩:=ct (A:=(ag I)) (B:=(ag y2)) I y2 rfl rfl I.length y2.length rfl rfl (by have:=Ly1.out;have:=Ly2.out;omega);have HK2:=G (show y3=J++(fs.take (k+1)).flatMap gE by rw[HT1.out,<-aA,<-HK.out,<-Hy3.out,HI.out,<-Hy2.out,<-Hy1.out,<-Hz3.out,<-Hz2.out,<-Hz1.out];simp only[aA]);clear hQ hIl HI HK hK2;go_wp2_with (go_at_call 128;refine(HCb.out _ HGY.out).mono ?_;rintro e w3 ⟨rfl,hE⟩;have HQ3:=G (HQ.out.trans (HE5.out.trans (HY.out.trans hE)));clear hE HCb);go_roundw
       case rel=>exact⟨k+1,y3,by go_num,rfl,by omega,HK2,HQ3⟩
       case measure=>simp[intOf];omega
    ·have hkt': ¬(k:Int)<m:=by omega
     have hkm:k=m:=by omega
     have hQ:fs.take k=fs:=aJ (by have:=HM.out;omega);have HS:=G (show K=R by rw[HK.out,hQ,HJv.out];exact HT.out);clear hQ HK HJv HT;go_wp2_with fail;go_ret;exact⟨fu HS.out,HG.out⟩
end
section
open Go.RowKit
def m6:Code->Code| .loop a=>a|c=>c
def fS (k:Nat):Code->Option Code
 | .seq (.region i o d) b=>if i=k then some (.seq (.region i o d) b)else fS k b
 | .seq a b=>(fS k a).orElse fun _=>fS k b
 | .block _ a=>fS k a
 | .cond _ a b=>(fS k a).orElse fun _=>fS k b
 | .loop a=>fS k a
 | .region i o d=>if i=k then some (.region i o d)else none
 | _=>none
def pX (k:Int) (nm:List UInt8) (e:List Ex):Bool:=
 if k=1 then bV nm&&decide (e.length<=1)else if k=2 then bV nm&&e.length==1 else if k=3 then bV nm&&e.length==2
 else if k=4 then nm==[]&&e.length==1 else if k=5 then nm==[]&&e.length==1 else if k=6 then nm==[]&&decide (e.length<=1)
 else if k=7 then nm==[]&&e.length==1&&(e.head?.map Ex.k==some 5)else false
def lL (k:Int) (n m:Nat):Bool:=(k==4||k==5||n==0)&&(k==4||m==0)
theorem St.ok_eq (k:Int) (nm:List UInt8) (e:List Ex) (b l:List St):St.ok (.mk k nm e b l)=(pX k nm e&&gK e&&(lL k b.length l.length&&(iM b&&iM l))):=by
 rw[St.ok];unfold pX lL;by_cases h1:k=1
 ·subst h1;simp only[if_true,show((1:Int)==4)=false from rfl,show((1:Int)==5)=false from rfl,cK];ac_rfl
 rw[if_neg h1,if_neg h1];by_cases h2:k=2
 ·subst h2;simp only[if_true,show((2:Int)==4)=false from rfl,show((2:Int)==5)=false from rfl,cK];ac_rfl
 rw[if_neg h2,if_neg h2];by_cases h3:k=3
 ·subst h3;simp only[if_true,show((3:Int)==4)=false from rfl,show((3:Int)==5)=false from rfl,cK];ac_rfl
 rw[if_neg h3,if_neg h3];by_cases h4:k=4
 ·subst h4;simp only[if_true,show((4:Int)==4)=true from rfl,ge,cD];try ac_rfl
 rw[if_neg h4,if_neg h4];by_cases h5:k=5
 ·subst h5;simp only[if_true,show((5:Int)==4)=false from rfl,show((5:Int)==5)=true from rfl,ge,cK,cD];ac_rfl
 rw[if_neg h5,if_neg h5];by_cases h6:k=6
 ·subst h6;simp only[if_true,show((6:Int)==4)=false from rfl,show((6:Int)==5)=false from rfl,cK];ac_rfl
 rw[if_neg h6,if_neg h6];by_cases h7:k=7
 ·subst h7;simp only[if_true,show((7:Int)==4)=false from rfl,show((7:Int)==5)=false from rfl,cK];ac_rfl
 rw[if_neg h7,if_neg h7];rfl
def lw (s0 u1 u2 x3:Value) (u:Nat->Value):Act:={tmps:= #[s0,u1,u2,x3,u 4,u 5,u 6,u 7,u 8,u 9,u 10,u 11,u 12,u 13,u 14,u 15,u 16,u 17,u 18,u 19,u 20,u 21,u 22,u 23,u 24,u 25,u 26,u 27,u 28,u 29,u 30,u 31,u 32,u 33,u 34,u 35,u 36,u 37,u 38,u 39,u 40,u 41,u 42,u 43,u 44,u 45,u 46,u 47,u 48,u 49,u 50,u 51,u 52,u 53,u 54,u 55,u 56,u 57,u 58,u 59,u 60,u 61,u 62,u 63,u 64,u 65,u 66,u 67,u 68,u 69,u 70,u 71,u 72,u 73,u 74,u 75,u 76,u 77,u 78,u 79,u 80,u 81,u 82,u 83,u 84,u 85,u 86,u 87,u 88,u 89,u 90,u 91,u 92,u 93,u 94,u 95,u 96,u 97,u 98,u 99,u 100,u 101,u 102,u 103,u 104,u 105,u 106,u 107,u 108,u 109,u 110,u 111,u 112,u 113,u 114,u 115,u 116,u 117,u 118,u 119,u 120,u 121,u 122,u 123,u 124,u 125,u 126,u 127,u 128,u 129,u 130,u 131,u 132,u 133,u 134,u 135,u 136,u 137,u 138,u 139,u 140,u 141,u 142,u 143,u 144,u 145],defers:=[]}
def wC (s0 u1 u2:Value) (j px n1:Nat) (u6:Value) (q:Bool) (u:Nat->Value):Act:=lw s0 u1 u2 (.int .i64 (j:Int)) fun i=>if i=4 then .pointer (some ⟨px,0,none⟩)else if i=5 then .int .i64 (n1:Int)else if i=6 then u6 else if i=7 then .bool q else u i
def lu (R:Bool) (Q:Exit->Act->World->Prop) (s0 u1:Value) (j:Nat) (w:World):Prop:=R=true-> ∀(W':World) (a:Act),a=lw s0 u1 (a.tmps.getD 2 undef) (.int .i64 ((j:Int)+1)) (fun i=>a.tmps.getD i undef)->au w W'->Q .normal a W'
def kR (R:Bool) (Q:Exit->Act->World->Prop) (s0 u1:Value) (j:Nat) (w:World):Prop:=R=false-> ∀(W':World) (a:Act),a=lw s0 u1 (.bool false) (.int .i64 (j:Int)) (fun i=>a.tmps.getD i undef)->au w W'->Q .ret a W'
theorem At (s0 u1 u2 u6:Value) (j px:Nat) (k:Int) (nm:List UInt8) (A2 B2 C2:Option Addr) (n1 n2 n3 c2 d2 i2:Nat) (w W:World) (b1 b2 R:Bool) (Q:Exit->Act->World->Prop) (K1:Act->World->Prop) (hj:j<=1000000001) (hE:au w W) (hB:aO W px 66 #[.int .i64 k, .string (ag nm), .slice A2 n1 c2, .slice B2 n2 d2, .slice C2 n3 i2])
  (h1: ∀W',au W W'->Calls prog 78 #[.slice B2 n2 d2] W' fun e w'=>e= .returned (.bool b1)/\au W' w') (h2: ∀W',au W W'->Calls prog 78 #[.slice C2 n3 i2] W' fun e w'=>e= .returned (.bool b2)/\au W' w')
  (hR:(false&&(lL k n2 n3&&(b1&&b2)))=R) (hNext:lu R Q s0 u1 j w) (hRet:kR R Q s0 u1 j w)
  (hK1: ∀a w',Code.wp prog ((fS 3 (Tryz.f78.body.getD .skip)).getD .skip) Q a w'->K1 a w') (a:Act) (ha:a=wC s0 u1 u2 j px n1 u6 false (fun i=>a.tmps.getD i undef)):
  Code.wp prog ((fS 25 (Tryz.f78.body.getD .skip)).getD .skip) (Exit.inBlock 1 (Exit.then K1 Q)) a W:=by
 generalize (fun i=>a.tmps.getD i undef)=u at ha;subst ha;unfold wC lw;simp only[Nat.reduceEqDiff,if_true,if_false];have f1:=hB.cell;have HG:=G hE;have HB:=G hB;have HP1:=G h1;have HP2:=G h2;have HQ:=G hR;have HNext:=G hNext;have HRet:=G hRet;clear hE hB h1 h2 hR hNext hRet
 conv=>arg 2;whnf
 have e0:R=false:=by rw[<-HQ.out];rfl
 clear HQ;go_wp2_with fail;exact HRet.out e0 _ _ rfl HG.out
theorem As (s0 u1 u2 u6:Value) (j px:Nat) (k:Int) (k4:k=4) (nm:List UInt8) (A2 B2 C2:Option Addr) (n1 n2 n3 c2 d2 i2:Nat) (w W:World) (b1 b2 R:Bool) (Q:Exit->Act->World->Prop) (K1:Act->World->Prop) (hj:j<=1000000001) (hE:au w W) (hB:aO W px 66 #[.int .i64 k, .string (ag nm), .slice A2 n1 c2, .slice B2 n2 d2, .slice C2 n3 i2])
  (h1: ∀W',au W W'->Calls prog 78 #[.slice B2 n2 d2] W' fun e w'=>e= .returned (.bool b1)/\au W' w') (h2: ∀W',au W W'->Calls prog 78 #[.slice C2 n3 i2] W' fun e w'=>e= .returned (.bool b2)/\au W' w')
  (hR:(true&&(lL k n2 n3&&(b1&&b2)))=R) (hNext:lu R Q s0 u1 j w) (hRet:kR R Q s0 u1 j w)
  (hK1: ∀a w',Code.wp prog ((fS 3 (Tryz.f78.body.getD .skip)).getD .skip) Q a w'->K1 a w') (a:Act) (ha:a=wC s0 u1 u2 j px n1 u6 true (fun i=>a.tmps.getD i undef)):
  Code.wp prog ((fS 25 (Tryz.f78.body.getD .skip)).getD .skip) (Exit.inBlock 1 (Exit.then K1 Q)) a W:=by
 generalize (fun i=>a.tmps.getD i undef)=u at ha;subst ha;unfold wC lw;simp only[Nat.reduceEqDiff,if_true,if_false];have f1:=hB.cell;have HG:=G hE;have HB:=G hB;have HP1:=G h1;have HP2:=G h2;have HQ:=G hR;have HNext:=G hNext;have HRet:=G hRet;clear hE hB h1 h2 hR hNext hRet
 conv=>arg 2;whnf
 subst k4;have ht:lL 4 n2 n3=true:=rfl
 cases b1 with
 |false=>
  have e0:R=false:=by rw[<-HQ.out];simp
  clear HQ;go_wp2_with (go_at_call 78;refine(HP1.out _ (aH _)).mono ?_;rintro e w3 ⟨rfl,hE⟩;have HZ3:=G hE;have HG3:=G (HG.out.trans hE);have f3:=(HB.out.ext hE).cell;clear hE HP1 f1);exact HRet.out e0 _ _ rfl HG3.out
 |true=>
  cases b2 with
  |false=>
   have e0:R=false:=by rw[<-HQ.out];simp
   clear HQ;go_wp2_with (first|(go_at_call 78;refine(HP1.out _ (aH _)).mono ?_;rintro e w3 ⟨rfl,hE⟩;have HZ3:=G hE;have HG3:=G (HG.out.trans hE);have f3:=(HB.out.ext hE).cell;clear hE HP1 f1)|(go_at_call 78;refine(HP2.out _ HZ3.out).mono ?_;rintro e w4 ⟨rfl,hE⟩;have HG4:=G (HG3.out.trans hE);clear hE HP2));exact HRet.out e0 _ _ rfl HG4.out
  |true=>
   have e0:R=true:=by rw[<-HQ.out];simp[ht]
   clear HQ;go_wp2_with (first|(go_at_call 78;refine(HP1.out _ (aH _)).mono ?_;rintro e w3 ⟨rfl,hE⟩;have HZ3:=G hE;have HG3:=G (HG.out.trans hE);have f3:=(HB.out.ext hE).cell;clear hE HP1 f1)|(go_at_call 78;refine(HP2.out _ HZ3.out).mono ?_;rintro e w4 ⟨rfl,hE⟩;have HG4:=G (HG3.out.trans hE);clear hE HP2))
   conv=>arg 2;whnf
   go_wp2_with fail;exact HNext.out e0 _ _ rfl HG4.out
theorem Ar (s0 u1 u2 u6:Value) (j px:Nat) (k:Int) (k5:k=5) (nm:List UInt8) (A2 B2 C2:Option Addr) (n1 n2 n3 c2 d2 i2:Nat) (w W:World) (b1 b2 R:Bool) (Q:Exit->Act->World->Prop) (K1:Act->World->Prop) (hj:j<=1000000001) (hE:au w W) (hB:aO W px 66 #[.int .i64 k, .string (ag nm), .slice A2 n1 c2, .slice B2 n2 d2, .slice C2 n3 i2])
  (h1: ∀W',au W W'->Calls prog 78 #[.slice B2 n2 d2] W' fun e w'=>e= .returned (.bool b1)/\au W' w') (h2: ∀W',au W W'->Calls prog 78 #[.slice C2 n3 i2] W' fun e w'=>e= .returned (.bool b2)/\au W' w')
  (hR:(true&&(lL k n2 n3&&(b1&&b2)))=R) (hNext:lu R Q s0 u1 j w) (hRet:kR R Q s0 u1 j w)
  (hK1: ∀a w',Code.wp prog ((fS 3 (Tryz.f78.body.getD .skip)).getD .skip) Q a w'->K1 a w') (a:Act) (ha:a=wC s0 u1 u2 j px n1 u6 true (fun i=>a.tmps.getD i undef)):
  Code.wp prog ((fS 25 (Tryz.f78.body.getD .skip)).getD .skip) (Exit.inBlock 1 (Exit.then K1 Q)) a W:=by
 generalize (fun i=>a.tmps.getD i undef)=u at ha;subst ha;unfold wC lw;simp only[Nat.reduceEqDiff,if_true,if_false];have f1:=hB.cell;have HG:=G hE;have HB:=G hB;have HP1:=G h1;have HP2:=G h2;have HQ:=G hR;have HNext:=G hNext;have HRet:=G hRet;clear hE hB h1 h2 hR hNext hRet
 conv=>arg 2;whnf
 subst k5;by_cases h3:(0:Int)<n3
 ·have hz:0<n3:=by omega
  have ht:lL 5 n2 n3=false:=by unfold lL;rw[show(n3==0)=false from beq_eq_false_iff_ne.2 (by omega)];simp
  have e0:R=false:=by rw[<-HQ.out];rw[ht];simp
  clear HQ;go_wp2_with fail;exact HRet.out e0 _ _ rfl HG.out
 ·obtain rfl:n3=0:=by omega
  have ht:lL 5 n2 0=true:=by unfold lL;simp
  clear h3
  cases b1 with
  |false=>
   have e0:R=false:=by rw[<-HQ.out];simp
   clear HQ;go_wp2_with (go_at_call 78;refine(HP1.out _ (aH _)).mono ?_;rintro e w3 ⟨rfl,hE⟩;have HZ3:=G hE;have HG3:=G (HG.out.trans hE);have f3:=(HB.out.ext hE).cell;clear hE HP1 f1);exact HRet.out e0 _ _ rfl HG3.out
  |true=>
   cases b2 with
   |false=>
    have e0:R=false:=by rw[<-HQ.out];simp
    clear HQ;go_wp2_with (first|(go_at_call 78;refine(HP1.out _ (aH _)).mono ?_;rintro e w3 ⟨rfl,hE⟩;have HZ3:=G hE;have HG3:=G (HG.out.trans hE);have f3:=(HB.out.ext hE).cell;clear hE HP1 f1)|(go_at_call 78;refine(HP2.out _ HZ3.out).mono ?_;rintro e w4 ⟨rfl,hE⟩;have HG4:=G (HG3.out.trans hE);clear hE HP2));exact HRet.out e0 _ _ rfl HG4.out
   |true=>
    have e0:R=true:=by rw[<-HQ.out];simp[ht]
    clear HQ;go_wp2_with (first|(go_at_call 78;refine(HP1.out _ (aH _)).mono ?_;rintro e w3 ⟨rfl,hE⟩;have HZ3:=G hE;have HG3:=G (HG.out.trans hE);have f3:=(HB.out.ext hE).cell;clear hE HP1 f1)|(go_at_call 78;refine(HP2.out _ HZ3.out).mono ?_;rintro e w4 ⟨rfl,hE⟩;have HG4:=G (HG3.out.trans hE);clear hE HP2))
    conv=>arg 2;whnf
    go_wp2_with fail;exact HNext.out e0 _ _ rfl HG4.out
theorem Aq (s0 u1 u2 u6:Value) (j px:Nat) (k:Int) (k4:k≠4) (k5:k≠5) (nm:List UInt8) (A2 B2 C2:Option Addr) (n1 n2 n3 c2 d2 i2:Nat) (w W:World) (b1 b2 R:Bool) (Q:Exit->Act->World->Prop) (K1:Act->World->Prop) (hj:j<=1000000001) (hE:au w W) (hB:aO W px 66 #[.int .i64 k, .string (ag nm), .slice A2 n1 c2, .slice B2 n2 d2, .slice C2 n3 i2])
  (h1: ∀W',au W W'->Calls prog 78 #[.slice B2 n2 d2] W' fun e w'=>e= .returned (.bool b1)/\au W' w') (h2: ∀W',au W W'->Calls prog 78 #[.slice C2 n3 i2] W' fun e w'=>e= .returned (.bool b2)/\au W' w')
  (hR:(true&&(lL k n2 n3&&(b1&&b2)))=R) (hNext:lu R Q s0 u1 j w) (hRet:kR R Q s0 u1 j w)
  (hK1: ∀a w',Code.wp prog ((fS 3 (Tryz.f78.body.getD .skip)).getD .skip) Q a w'->K1 a w') (a:Act) (ha:a=wC s0 u1 u2 j px n1 u6 true (fun i=>a.tmps.getD i undef)):
  Code.wp prog ((fS 25 (Tryz.f78.body.getD .skip)).getD .skip) (Exit.inBlock 1 (Exit.then K1 Q)) a W:=by
 generalize (fun i=>a.tmps.getD i undef)=u at ha;subst ha;unfold wC lw;simp only[Nat.reduceEqDiff,if_true,if_false];have f1:=hB.cell;have HG:=G hE;have HB:=G hB;have HP1:=G h1;have HP2:=G h2;have HQ:=G hR;have HNext:=G hNext;have HRet:=G hRet;clear hE hB h1 h2 hR hNext hRet
 conv=>arg 2;whnf
 have n4:(k !=4)=true:=by simpa using k4
 have z4:(k==4)=false:=beq_eq_false_iff_ne.2 k4;have n5:(k !=5)=true:=by simpa using k5
 have z5:(k==5)=false:=beq_eq_false_iff_ne.2 k5;by_cases h2:(0:Int)<n2
 ·have hz:0<n2:=by omega
  have ht:lL k n2 n3=false:=by unfold lL;rw[z4,z5,show(n2==0)=false from beq_eq_false_iff_ne.2 (by omega)];rfl
  have e0:R=false:=by rw[<-HQ.out];rw[ht];simp
  clear HQ;go_wp2_with fail;exact HRet.out e0 _ _ rfl HG.out
 ·obtain rfl:n2=0:=by omega
  clear h2;by_cases h3:(0:Int)<n3
  ·have hz:0<n3:=by omega
   have ht:lL k 0 n3=false:=by unfold lL;rw[z4,show(n3==0)=false from beq_eq_false_iff_ne.2 (by omega)];simp
   have e0:R=false:=by rw[<-HQ.out];rw[ht];simp
   clear HQ;go_wp2_with fail;exact HRet.out e0 _ _ rfl HG.out
  ·obtain rfl:n3=0:=by omega
   clear h3;have ht:lL k 0 0=true:=by unfold lL;simp
   cases b1 with
   |false=>
    have e0:R=false:=by rw[<-HQ.out];simp
    clear HQ;go_wp2_with (go_at_call 78;refine(HP1.out _ (aH _)).mono ?_;rintro e w3 ⟨rfl,hE⟩;have HZ3:=G hE;have HG3:=G (HG.out.trans hE);have f3:=(HB.out.ext hE).cell;clear hE HP1 f1);exact HRet.out e0 _ _ rfl HG3.out
   |true=>
    cases b2 with
    |false=>
     have e0:R=false:=by rw[<-HQ.out];simp
     clear HQ;go_wp2_with (first|(go_at_call 78;refine(HP1.out _ (aH _)).mono ?_;rintro e w3 ⟨rfl,hE⟩;have HZ3:=G hE;have HG3:=G (HG.out.trans hE);have f3:=(HB.out.ext hE).cell;clear hE HP1 f1)|(go_at_call 78;refine(HP2.out _ HZ3.out).mono ?_;rintro e w4 ⟨rfl,hE⟩;have HG4:=G (HG3.out.trans hE);clear hE HP2));exact HRet.out e0 _ _ rfl HG4.out
    |true=>
     have e0:R=true:=by rw[<-HQ.out];simp[ht]
     clear HQ;go_wp2_with (first|(go_at_call 78;refine(HP1.out _ (aH _)).mono ?_;rintro e w3 ⟨rfl,hE⟩;have HZ3:=G hE;have HG3:=G (HG.out.trans hE);have f3:=(HB.out.ext hE).cell;clear hE HP1 f1)|(go_at_call 78;refine(HP2.out _ HZ3.out).mono ?_;rintro e w4 ⟨rfl,hE⟩;have HG4:=G (HG3.out.trans hE);clear hE HP2))
     conv=>arg 2;whnf
     go_wp2_with fail;exact HNext.out e0 _ _ rfl HG4.out
theorem dP (s0 u1 u2 u6:Value) (j px:Nat) (k:Int) (nm:List UInt8) (A2 B2 C2:Option Addr) (n1 n2 n3 c2 d2 i2:Nat) (q:Bool) (w W:World) (P:Nat->Prop) (ex:List Ex) (b1 b2 R:Bool) (Q:Exit->Act->World->Prop) (K K1:Act->World->Prop) (hj:j<=1000000001) (hn1:n1<=1073741824) (hE:au w W) (hB:aO W px 66 #[.int .i64 k, .string (ag nm), .slice A2 n1 c2, .slice B2 n2 d2, .slice C2 n3 i2]) (hI:jk ex) (hRa:b8 W P (.slice A2 n1 c2) ex)
  (h1: ∀W',au W W'->Calls prog 78 #[.slice B2 n2 d2] W' fun e w'=>e= .returned (.bool b1)/\au W' w') (h2: ∀W',au W W'->Calls prog 78 #[.slice C2 n3 i2] W' fun e w'=>e= .returned (.bool b2)/\au W' w')
  (hR:(q&&gK ex&&(lL k n2 n3&&(b1&&b2)))=R) (hNext:lu R Q s0 u1 j w) (hRet:kR R Q s0 u1 j w)
  (hK: ∀a w',Code.wp prog ((fS 25 (Tryz.f78.body.getD .skip)).getD .skip) (Exit.inBlock 1 (Exit.then K1 Q)) a w'->K a w') (hK1: ∀a w',Code.wp prog ((fS 3 (Tryz.f78.body.getD .skip)).getD .skip) Q a w'->K1 a w') (a:Act) (ha:a=wC s0 u1 u2 j px n1 u6 q (fun i=>a.tmps.getD i undef)) (h8:a.tmps.getD 8 undef= .int .i64 0):
  Code.wp prog ((dV (m6 ((dV (Tryz.f78.body.getD .skip)).getD 0 .skip))).getD 0 .skip) (Exit.inBlock 3 (Exit.then K (Exit.inBlock 1 (Exit.then K1 Q)))) a W:=by
 have h8:(fun i=>a.tmps.getD i undef) 8= .int .i64 0:=h8;generalize (fun i=>a.tmps.getD i undef)=u at ha h8;subst ha;unfold wC lw;simp only[Nat.reduceEqDiff,if_true,if_false];have H8:=G h8;clear h8;have hnl:=hRa.len;have HX:=G hE;have HN:=G hnl;have HR:=G hRa;have HI:=G hI;have HQ:=G hR;have HB:=G hB;have HP1:=G h1;have HP2:=G h2;have HNext:=G hNext;have HRet:=G hRet;clear hE hnl hRa hI hR hB h1 h2 hNext hRet
 conv=>arg 2;whnf
 go_loopw [7,8] (fun vq vk wr=> ∃(i:Nat) (p:Bool),vk= .int .i64 (i:Int)/\vq= .bool p/\i<=n1/\Hid ((q&&gK (ex.take i))=p)/\Hid (au W wr)) (fun _ vk _=>n1-(intOf vk).toNat)
 case atStart=>exact⟨0,q,H8.out,rfl,az _,G (by simp[gK]),G (aH W)⟩
 case round=>
  obtain⟨i,p,rfl,rfl,hi,HA,HZ⟩:=hrel;have f1:=(HB.out.ext HZ.out).cell;by_cases hlt:i<n1
  ·have hlt':(i:Int)<n1:=by omega
   cases p with
   |true=>
    have hil:i<ex.length:=by have:=HN.out;omega
    obtain⟨g,o,a,rfl,hg,hP,y0,y1,y2,y3,y4,y5,hRb⟩:=HR.out.at_ i hil;have HS:=G (ik hil);have HIx:=HI.out _ (ai hil);generalize ex[i]=y at*;have e0:=(HZ.out.cell g _ hg).trans y0;have e1:=(HZ.out.cell g _ hg).trans y1;have e2:=(HZ.out.cell g _ hg).trans y2;have e3:=(HZ.out.cell g _ hg).trans y3;have e4:=(HZ.out.cell g _ hg).trans y4;have e5:=(HZ.out.cell g _ hg).trans y5;obtain⟨D,d,rfl,_⟩:=hRb.form;have HC:=G (HIx P wr D _ d (hRb.keep (.of_ext HZ.out) (Q:=P) (fun _ hb _=>hb)));have HY:=G (show(q&&gK (ex.take (i+1)))=y.ok by rw[HS.out,<-Bool.and_assoc,HA.out,cD]);generalize y.ok=yo at*;clear y0 y1 y2 y3 y4 y5 hRb HIx HS;go_wp2_with (go_at_call 125;refine HC.out.mono ?_;rintro e w3 ⟨rfl,hE⟩;have HZ3:=G (HZ.out.trans hE);clear hE HC);go_roundw
    case rel=>exact⟨i+1,_,by go_num,rfl,by omega,HY,HZ3⟩
    case measure=>simp[intOf];omega
   |false=>
    have HY:=G (show(q&&gK (ex.take (i+1)))=false by
     have:=HA.out
     cases q with
     |false=>rfl
     |true=>rw[ik (by have:=HN.out;omega),show gK (ex.take i)=false by simpa using this];rfl)
    go_wp2_with fail;go_roundw
    case rel=>exact⟨i+1,false,by go_num,rfl,by omega,HY,HZ⟩
    case measure=>simp[intOf];omega
  ·have hlt': ¬(i:Int)<n1:=by omega
   have hq:(q&&gK ex)=p:=by
    have:=HA.out;rwa [aJ (by have:=HN.out;omega)]at this
   rw[hq]at HQ;clear HA hq;have HG:=G (HX.out.trans HZ.out);clear f1
   cases p with
   |false=>
    go_wp2_with fail;exact At _ _ _ _ j _ k nm A2 B2 C2 n1 n2 n3 c2 d2 i2 w _ b1 b2 R Q K1 hj HG.out (HB.out.ext HZ.out) (fun W' h=>HP1.out W' (HZ.out.trans h)) (fun W' h=>HP2.out W' (HZ.out.trans h)) HQ.out HNext.out HRet.out hK1 _ rfl
   |true=>
    go_wp2_with fail;by_cases k4:k=4
    ·exact As _ _ _ _ j _ k k4 nm A2 B2 C2 n1 n2 n3 c2 d2 i2 w _ b1 b2 R Q K1 hj HG.out (HB.out.ext HZ.out) (fun W' h=>HP1.out W' (HZ.out.trans h)) (fun W' h=>HP2.out W' (HZ.out.trans h)) HQ.out HNext.out HRet.out hK1 _ rfl
    ·by_cases k5:k=5
     ·exact Ar _ _ _ _ j _ k k5 nm A2 B2 C2 n1 n2 n3 c2 d2 i2 w _ b1 b2 R Q K1 hj HG.out (HB.out.ext HZ.out) (fun W' h=>HP1.out W' (HZ.out.trans h)) (fun W' h=>HP2.out W' (HZ.out.trans h)) HQ.out HNext.out HRet.out hK1 _ rfl
     ·exact Aq _ _ _ _ j _ k k4 k5 nm A2 B2 C2 n1 n2 n3 c2 d2 i2 w _ b1 b2 R Q K1 hj HG.out (HB.out.ext HZ.out) (fun W' h=>HP1.out W' (HZ.out.trans h)) (fun W' h=>HP2.out W' (HZ.out.trans h)) HQ.out HNext.out HRet.out hK1 _ rfl
end
section
open Go.RowKit
theorem BR (b o n c:Nat) (u1 u2:Value) (j:Nat) (nm:List UInt8) (A2 B2 C2:Option Addr) (n1 n2 n3 c2 d2 i2:Nat) (w:World) (P:Nat->Prop) (ex:List Ex) (b1 b2 R:Bool) (Q:Exit->Act->World->Prop) (s0:Value) (hs0:s0= .slice (some ⟨b,o,none⟩) n c) (hj:j<=1000000000) (hjn:j<n) (hn1:n1<=1073741824) (hnm:nm.length<=1073741824) (hI:jk ex) (hRa:b8 w P (.slice A2 n1 c2) ex)
  (e0:w.cell? ⟨b,o+j*5,none⟩=some (.int .i64 1)) (e1:w.cell? ⟨b,o+j*5+1,none⟩=some (.string (ag nm))) (e2:w.cell? ⟨b,o+j*5+2,none⟩=some (.slice A2 n1 c2)) (e3:w.cell? ⟨b,o+j*5+3,none⟩=some (.slice B2 n2 d2)) (e4:w.cell? ⟨b,o+j*5+4,none⟩=some (.slice C2 n3 i2))
  (h1: ∀W',au w W'->Calls prog 78 #[.slice B2 n2 d2] W' fun e w'=>e= .returned (.bool b1)/\au W' w') (h2: ∀W',au w W'->Calls prog 78 #[.slice C2 n3 i2] W' fun e w'=>e= .returned (.bool b2)/\au W' w')
  (hR:(pX 1 nm ex&&gK ex&&(lL 1 n2 n3&&(b1&&b2)))=R) (hNext:lu R Q s0 u1 j w) (hRet:kR R Q s0 u1 j w) (a:Act) (ha:a=lw s0 u1 u2 (.int .i64 (j:Int)) (fun i=>a.tmps.getD i undef)):
  Code.wp prog (m6 ((dV (Tryz.f78.body.getD .skip)).getD 0 .skip)) Q a w:=by
 generalize (fun i=>a.tmps.getD i undef)=u at ha;subst ha;unfold lw;subst hs0;have hnl:=hRa.len;have HE:=G (O w (.cells #[.int .i64 1, .string (ag nm), .slice A2 n1 c2, .slice B2 n2 d2, .slice C2 n3 i2] 66));have HB:=G (ax w 66 #[.int .i64 1, .string (ag nm), .slice A2 n1 c2, .slice B2 n2 d2, .slice C2 n3 i2]);have HRa:=G (hRa.keep (.of_ext HE.out) (Q:=P) (fun _ hb _=>hb));have HI:=G hI;have HP1:=G h1;have HP2:=G h2;have HNext:=G hNext;have HRet:=G hRet;have hh:pX 1 nm ex=(bV nm&&decide (n1<=1)):=by rw[hnl];rfl
 rw[hh]at hR;have HQ:=G hR;clear hR hh hRa hI h1 h2 hNext hRet hnl;have HC:=G (dT nm hnm);generalize bV nm=b0 at*
 cases b0 with
 |false=>
  conv=>arg 2;whnf
  go_wp2_with (go_at_call 77;refine(HC.out _).mono ?_;rintro e w3 ⟨rfl,hE⟩;have HX:=G (HE.out.trans hE);have HBx:=G (HB.out.ext hE);have HRx:=G (HRa.out.keep (.of_ext hE) (Q:=P) (fun _ hb _=>hb));have f3:=HBx.out.cell;clear hE HE HB HRa HC);exact dP _ _ _ _ j _ 1 nm _ B2 C2 _ n2 n3 c2 d2 i2 false w _ P ex b1 b2 R Q _ _ (by omega) hn1 HX.out HBx.out HI.out HRx.out (fun W' h=>HP1.out W' (HX.out.trans h)) (fun W' h=>HP2.out W' (HX.out.trans h)) (cv (by first|rfl|simp) HQ.out) HNext.out HRet.out (by assumption) (by assumption) _ rfl rfl
 |true=>
  by_cases hc:(n1:Int)<=1
  ·have hcn:decide (n1<=1)=true:=decide_eq_true (by omega);have hcm:decide ((n1:Int)<=1)=true:=decide_eq_true hc;rw[hcn]at HQ
   conv=>arg 2;whnf
   go_wp2_with (go_at_call 77;refine(HC.out _).mono ?_;rintro e w3 ⟨rfl,hE⟩;have HX:=G (HE.out.trans hE);have HBx:=G (HB.out.ext hE);have HRx:=G (HRa.out.keep (.of_ext hE) (Q:=P) (fun _ hb _=>hb));have f3:=HBx.out.cell;clear hE HE HB HRa HC);exact dP _ _ _ _ j _ 1 nm _ B2 C2 _ n2 n3 c2 d2 i2 true w _ P ex b1 b2 R Q _ _ (by omega) hn1 HX.out HBx.out HI.out HRx.out (fun W' h=>HP1.out W' (HX.out.trans h)) (fun W' h=>HP2.out W' (HX.out.trans h)) (cv (by first|rfl|simp) HQ.out) HNext.out HRet.out (by assumption) (by assumption) _ rfl rfl
  ·have hcn:decide (n1<=1)=false:=decide_eq_false (by omega);have hcm:decide ((n1:Int)<=1)=false:=decide_eq_false hc;rw[hcn]at HQ
   conv=>arg 2;whnf
   go_wp2_with (go_at_call 77;refine(HC.out _).mono ?_;rintro e w3 ⟨rfl,hE⟩;have HX:=G (HE.out.trans hE);have HBx:=G (HB.out.ext hE);have HRx:=G (HRa.out.keep (.of_ext hE) (Q:=P) (fun _ hb _=>hb));have f3:=HBx.out.cell;clear hE HE HB HRa HC);exact dP _ _ _ _ j _ 1 nm _ B2 C2 _ n2 n3 c2 d2 i2 false w _ P ex b1 b2 R Q _ _ (by omega) hn1 HX.out HBx.out HI.out HRx.out (fun W' h=>HP1.out W' (HX.out.trans h)) (fun W' h=>HP2.out W' (HX.out.trans h)) (cv (by first|rfl|simp) HQ.out) HNext.out HRet.out (by assumption) (by assumption) _ rfl rfl
theorem BQ (b o n c:Nat) (u1 u2:Value) (j:Nat) (nm:List UInt8) (A2 B2 C2:Option Addr) (n1 n2 n3 c2 d2 i2:Nat) (w:World) (P:Nat->Prop) (ex:List Ex) (b1 b2 R:Bool) (Q:Exit->Act->World->Prop) (s0:Value) (hs0:s0= .slice (some ⟨b,o,none⟩) n c) (hj:j<=1000000000) (hjn:j<n) (hn1:n1<=1073741824) (hnm:nm.length<=1073741824) (hI:jk ex) (hRa:b8 w P (.slice A2 n1 c2) ex)
  (e0:w.cell? ⟨b,o+j*5,none⟩=some (.int .i64 2)) (e1:w.cell? ⟨b,o+j*5+1,none⟩=some (.string (ag nm))) (e2:w.cell? ⟨b,o+j*5+2,none⟩=some (.slice A2 n1 c2)) (e3:w.cell? ⟨b,o+j*5+3,none⟩=some (.slice B2 n2 d2)) (e4:w.cell? ⟨b,o+j*5+4,none⟩=some (.slice C2 n3 i2))
  (h1: ∀W',au w W'->Calls prog 78 #[.slice B2 n2 d2] W' fun e w'=>e= .returned (.bool b1)/\au W' w') (h2: ∀W',au w W'->Calls prog 78 #[.slice C2 n3 i2] W' fun e w'=>e= .returned (.bool b2)/\au W' w')
  (hR:(pX 2 nm ex&&gK ex&&(lL 2 n2 n3&&(b1&&b2)))=R) (hNext:lu R Q s0 u1 j w) (hRet:kR R Q s0 u1 j w) (a:Act) (ha:a=lw s0 u1 u2 (.int .i64 (j:Int)) (fun i=>a.tmps.getD i undef)):
  Code.wp prog (m6 ((dV (Tryz.f78.body.getD .skip)).getD 0 .skip)) Q a w:=by
 generalize (fun i=>a.tmps.getD i undef)=u at ha;subst ha;unfold lw;subst hs0;have hnl:=hRa.len;have HE:=G (O w (.cells #[.int .i64 2, .string (ag nm), .slice A2 n1 c2, .slice B2 n2 d2, .slice C2 n3 i2] 66));have HB:=G (ax w 66 #[.int .i64 2, .string (ag nm), .slice A2 n1 c2, .slice B2 n2 d2, .slice C2 n3 i2]);have HRa:=G (hRa.keep (.of_ext HE.out) (Q:=P) (fun _ hb _=>hb));have HI:=G hI;have HP1:=G h1;have HP2:=G h2;have HNext:=G hNext;have HRet:=G hRet;have hh:pX 2 nm ex=(bV nm&&n1==1):=by rw[hnl];rfl
 rw[hh]at hR;have HQ:=G hR;clear hR hh hRa hI h1 h2 hNext hRet hnl;have HC:=G (dT nm hnm);generalize bV nm=b0 at*
 cases b0 with
 |false=>
  conv=>arg 2;whnf
  go_wp2_with (go_at_call 77;refine(HC.out _).mono ?_;rintro e w3 ⟨rfl,hE⟩;have HX:=G (HE.out.trans hE);have HBx:=G (HB.out.ext hE);have HRx:=G (HRa.out.keep (.of_ext hE) (Q:=P) (fun _ hb _=>hb));have f3:=HBx.out.cell;clear hE HE HB HRa HC);exact dP _ _ _ _ j _ 2 nm _ B2 C2 _ n2 n3 c2 d2 i2 false w _ P ex b1 b2 R Q _ _ (by omega) hn1 HX.out HBx.out HI.out HRx.out (fun W' h=>HP1.out W' (HX.out.trans h)) (fun W' h=>HP2.out W' (HX.out.trans h)) (cv (by first|rfl|simp) HQ.out) HNext.out HRet.out (by assumption) (by assumption) _ rfl rfl
 |true=>
  by_cases hc:n1=1
  ·subst hc;rw[show((1:Nat)==1)=true from rfl]at HQ
   conv=>arg 2;whnf
   go_wp2_with (go_at_call 77;refine(HC.out _).mono ?_;rintro e w3 ⟨rfl,hE⟩;have HX:=G (HE.out.trans hE);have HBx:=G (HB.out.ext hE);have HRx:=G (HRa.out.keep (.of_ext hE) (Q:=P) (fun _ hb _=>hb));have f3:=HBx.out.cell;clear hE HE HB HRa HC);exact dP _ _ _ _ j _ 2 nm _ B2 C2 _ n2 n3 c2 d2 i2 true w _ P ex b1 b2 R Q _ _ (by omega) hn1 HX.out HBx.out HI.out HRx.out (fun W' h=>HP1.out W' (HX.out.trans h)) (fun W' h=>HP2.out W' (HX.out.trans h)) (cv (by first|rfl|simp) HQ.out) HNext.out HRet.out (by assumption) (by assumption) _ rfl rfl
  ·have hcf:(n1==1)=false:=beq_eq_false_iff_ne.2 hc;have hci:((n1:Int)==1)=false:=beq_eq_false_iff_ne.2 (by omega);rw[hcf]at HQ
   conv=>arg 2;whnf
   go_wp2_with (go_at_call 77;refine(HC.out _).mono ?_;rintro e w3 ⟨rfl,hE⟩;have HX:=G (HE.out.trans hE);have HBx:=G (HB.out.ext hE);have HRx:=G (HRa.out.keep (.of_ext hE) (Q:=P) (fun _ hb _=>hb));have f3:=HBx.out.cell;clear hE HE HB HRa HC);exact dP _ _ _ _ j _ 2 nm _ B2 C2 _ n2 n3 c2 d2 i2 false w _ P ex b1 b2 R Q _ _ (by omega) hn1 HX.out HBx.out HI.out HRx.out (fun W' h=>HP1.out W' (HX.out.trans h)) (fun W' h=>HP2.out W' (HX.out.trans h)) (cv (by first|rfl|simp) HQ.out) HNext.out HRet.out (by assumption) (by assumption) _ rfl rfl
theorem BP (b o n c:Nat) (u1 u2:Value) (j:Nat) (nm:List UInt8) (A2 B2 C2:Option Addr) (n1 n2 n3 c2 d2 i2:Nat) (w:World) (P:Nat->Prop) (ex:List Ex) (b1 b2 R:Bool) (Q:Exit->Act->World->Prop) (s0:Value) (hs0:s0= .slice (some ⟨b,o,none⟩) n c) (hj:j<=1000000000) (hjn:j<n) (hn1:n1<=1073741824) (hnm:nm.length<=1073741824) (hI:jk ex) (hRa:b8 w P (.slice A2 n1 c2) ex)
  (e0:w.cell? ⟨b,o+j*5,none⟩=some (.int .i64 3)) (e1:w.cell? ⟨b,o+j*5+1,none⟩=some (.string (ag nm))) (e2:w.cell? ⟨b,o+j*5+2,none⟩=some (.slice A2 n1 c2)) (e3:w.cell? ⟨b,o+j*5+3,none⟩=some (.slice B2 n2 d2)) (e4:w.cell? ⟨b,o+j*5+4,none⟩=some (.slice C2 n3 i2))
  (h1: ∀W',au w W'->Calls prog 78 #[.slice B2 n2 d2] W' fun e w'=>e= .returned (.bool b1)/\au W' w') (h2: ∀W',au w W'->Calls prog 78 #[.slice C2 n3 i2] W' fun e w'=>e= .returned (.bool b2)/\au W' w')
  (hR:(pX 3 nm ex&&gK ex&&(lL 3 n2 n3&&(b1&&b2)))=R) (hNext:lu R Q s0 u1 j w) (hRet:kR R Q s0 u1 j w) (a:Act) (ha:a=lw s0 u1 u2 (.int .i64 (j:Int)) (fun i=>a.tmps.getD i undef)):
  Code.wp prog (m6 ((dV (Tryz.f78.body.getD .skip)).getD 0 .skip)) Q a w:=by
 generalize (fun i=>a.tmps.getD i undef)=u at ha;subst ha;unfold lw;subst hs0;have hnl:=hRa.len;have HE:=G (O w (.cells #[.int .i64 3, .string (ag nm), .slice A2 n1 c2, .slice B2 n2 d2, .slice C2 n3 i2] 66));have HB:=G (ax w 66 #[.int .i64 3, .string (ag nm), .slice A2 n1 c2, .slice B2 n2 d2, .slice C2 n3 i2]);have HRa:=G (hRa.keep (.of_ext HE.out) (Q:=P) (fun _ hb _=>hb));have HI:=G hI;have HP1:=G h1;have HP2:=G h2;have HNext:=G hNext;have HRet:=G hRet;have hh:pX 3 nm ex=(bV nm&&n1==2):=by rw[hnl];rfl
 rw[hh]at hR;have HQ:=G hR;clear hR hh hRa hI h1 h2 hNext hRet hnl;have HC:=G (dT nm hnm);generalize bV nm=b0 at*
 cases b0 with
 |false=>
  conv=>arg 2;whnf
  go_wp2_with (go_at_call 77;refine(HC.out _).mono ?_;rintro e w3 ⟨rfl,hE⟩;have HX:=G (HE.out.trans hE);have HBx:=G (HB.out.ext hE);have HRx:=G (HRa.out.keep (.of_ext hE) (Q:=P) (fun _ hb _=>hb));have f3:=HBx.out.cell;clear hE HE HB HRa HC);exact dP _ _ _ _ j _ 3 nm _ B2 C2 _ n2 n3 c2 d2 i2 false w _ P ex b1 b2 R Q _ _ (by omega) hn1 HX.out HBx.out HI.out HRx.out (fun W' h=>HP1.out W' (HX.out.trans h)) (fun W' h=>HP2.out W' (HX.out.trans h)) (cv (by first|rfl|simp) HQ.out) HNext.out HRet.out (by assumption) (by assumption) _ rfl rfl
 |true=>
  by_cases hc:n1=2
  ·subst hc;rw[show((2:Nat)==2)=true from rfl]at HQ
   conv=>arg 2;whnf
   go_wp2_with (go_at_call 77;refine(HC.out _).mono ?_;rintro e w3 ⟨rfl,hE⟩;have HX:=G (HE.out.trans hE);have HBx:=G (HB.out.ext hE);have HRx:=G (HRa.out.keep (.of_ext hE) (Q:=P) (fun _ hb _=>hb));have f3:=HBx.out.cell;clear hE HE HB HRa HC);exact dP _ _ _ _ j _ 3 nm _ B2 C2 _ n2 n3 c2 d2 i2 true w _ P ex b1 b2 R Q _ _ (by omega) hn1 HX.out HBx.out HI.out HRx.out (fun W' h=>HP1.out W' (HX.out.trans h)) (fun W' h=>HP2.out W' (HX.out.trans h)) (cv (by first|rfl|simp) HQ.out) HNext.out HRet.out (by assumption) (by assumption) _ rfl rfl
  ·have hcf:(n1==2)=false:=beq_eq_false_iff_ne.2 hc;have hci:((n1:Int)==2)=false:=beq_eq_false_iff_ne.2 (by omega);rw[hcf]at HQ
   conv=>arg 2;whnf
   go_wp2_with (go_at_call 77;refine(HC.out _).mono ?_;rintro e w3 ⟨rfl,hE⟩;have HX:=G (HE.out.trans hE);have HBx:=G (HB.out.ext hE);have HRx:=G (HRa.out.keep (.of_ext hE) (Q:=P) (fun _ hb _=>hb));have f3:=HBx.out.cell;clear hE HE HB HRa HC);exact dP _ _ _ _ j _ 3 nm _ B2 C2 _ n2 n3 c2 d2 i2 false w _ P ex b1 b2 R Q _ _ (by omega) hn1 HX.out HBx.out HI.out HRx.out (fun W' h=>HP1.out W' (HX.out.trans h)) (fun W' h=>HP2.out W' (HX.out.trans h)) (cv (by first|rfl|simp) HQ.out) HNext.out HRet.out (by assumption) (by assumption) _ rfl rfl
theorem BO (b o n c:Nat) (u1 u2:Value) (j:Nat) (nm:List UInt8) (A2 B2 C2:Option Addr) (n1 n2 n3 c2 d2 i2:Nat) (w:World) (P:Nat->Prop) (ex:List Ex) (b1 b2 R:Bool) (Q:Exit->Act->World->Prop) (s0:Value) (hs0:s0= .slice (some ⟨b,o,none⟩) n c) (hj:j<=1000000000) (hjn:j<n) (hn1:n1<=1073741824) (hnm:nm.length<=1073741824) (hI:jk ex) (hRa:b8 w P (.slice A2 n1 c2) ex)
  (e0:w.cell? ⟨b,o+j*5,none⟩=some (.int .i64 4)) (e1:w.cell? ⟨b,o+j*5+1,none⟩=some (.string (ag nm))) (e2:w.cell? ⟨b,o+j*5+2,none⟩=some (.slice A2 n1 c2)) (e3:w.cell? ⟨b,o+j*5+3,none⟩=some (.slice B2 n2 d2)) (e4:w.cell? ⟨b,o+j*5+4,none⟩=some (.slice C2 n3 i2))
  (h1: ∀W',au w W'->Calls prog 78 #[.slice B2 n2 d2] W' fun e w'=>e= .returned (.bool b1)/\au W' w') (h2: ∀W',au w W'->Calls prog 78 #[.slice C2 n3 i2] W' fun e w'=>e= .returned (.bool b2)/\au W' w')
  (hR:(pX 4 nm ex&&gK ex&&(lL 4 n2 n3&&(b1&&b2)))=R) (hNext:lu R Q s0 u1 j w) (hRet:kR R Q s0 u1 j w) (a:Act) (ha:a=lw s0 u1 u2 (.int .i64 (j:Int)) (fun i=>a.tmps.getD i undef)):
  Code.wp prog (m6 ((dV (Tryz.f78.body.getD .skip)).getD 0 .skip)) Q a w:=by
 generalize (fun i=>a.tmps.getD i undef)=u at ha;subst ha;unfold lw;subst hs0;have hnl:=hRa.len;have HE:=G (O w (.cells #[.int .i64 4, .string (ag nm), .slice A2 n1 c2, .slice B2 n2 d2, .slice C2 n3 i2] 66));have HB:=G (ax w 66 #[.int .i64 4, .string (ag nm), .slice A2 n1 c2, .slice B2 n2 d2, .slice C2 n3 i2]);have HRa:=G (hRa.keep (.of_ext HE.out) (Q:=P) (fun _ hb _=>hb));have HI:=G hI;have HP1:=G h1;have HP2:=G h2;have HNext:=G hNext;have HRet:=G hRet;have hh:pX 4 nm ex=(nm==[]&&n1==1):=by rw[hnl];rfl
 rw[hh]at hR;have HQ:=G hR;clear hR hh hRa hI h1 h2 hNext hRet hnl
 cases hb0:(nm==[])with
 |false=>
  rw[hb0]at HQ;have HX:=HE;have HBx:=HB;have HRx:=HRa
  conv=>arg 2;whnf
  go_wp2_with fail;exact dP _ _ _ _ j _ 4 nm _ B2 C2 _ n2 n3 c2 d2 i2 false w _ P ex b1 b2 R Q _ _ (by omega) hn1 HX.out HBx.out HI.out HRx.out (fun W' h=>HP1.out W' (HX.out.trans h)) (fun W' h=>HP2.out W' (HX.out.trans h)) (cv (by first|rfl|simp) HQ.out) HNext.out HRet.out (by assumption) (by assumption) _ rfl rfl
 |true=>
  rw[hb0]at HQ;by_cases hc:n1=1
  ·subst hc;rw[show((1:Nat)==1)=true from rfl]at HQ;have HX:=HE;have HBx:=HB;have HRx:=HRa
   conv=>arg 2;whnf
   go_wp2_with fail;exact dP _ _ _ _ j _ 4 nm _ B2 C2 _ n2 n3 c2 d2 i2 true w _ P ex b1 b2 R Q _ _ (by omega) hn1 HX.out HBx.out HI.out HRx.out (fun W' h=>HP1.out W' (HX.out.trans h)) (fun W' h=>HP2.out W' (HX.out.trans h)) (cv (by first|rfl|simp) HQ.out) HNext.out HRet.out (by assumption) (by assumption) _ rfl rfl
  ·have hcf:(n1==1)=false:=beq_eq_false_iff_ne.2 hc;have hci:((n1:Int)==1)=false:=beq_eq_false_iff_ne.2 (by omega);rw[hcf]at HQ;have HX:=HE;have HBx:=HB;have HRx:=HRa
   conv=>arg 2;whnf
   go_wp2_with fail;exact dP _ _ _ _ j _ 4 nm _ B2 C2 _ n2 n3 c2 d2 i2 false w _ P ex b1 b2 R Q _ _ (by omega) hn1 HX.out HBx.out HI.out HRx.out (fun W' h=>HP1.out W' (HX.out.trans h)) (fun W' h=>HP2.out W' (HX.out.trans h)) (cv (by first|rfl|simp) HQ.out) HNext.out HRet.out (by assumption) (by assumption) _ rfl rfl
theorem BN (b o n c:Nat) (u1 u2:Value) (j:Nat) (nm:List UInt8) (A2 B2 C2:Option Addr) (n1 n2 n3 c2 d2 i2:Nat) (w:World) (P:Nat->Prop) (ex:List Ex) (b1 b2 R:Bool) (Q:Exit->Act->World->Prop) (s0:Value) (hs0:s0= .slice (some ⟨b,o,none⟩) n c) (hj:j<=1000000000) (hjn:j<n) (hn1:n1<=1073741824) (hnm:nm.length<=1073741824) (hI:jk ex) (hRa:b8 w P (.slice A2 n1 c2) ex)
  (e0:w.cell? ⟨b,o+j*5,none⟩=some (.int .i64 5)) (e1:w.cell? ⟨b,o+j*5+1,none⟩=some (.string (ag nm))) (e2:w.cell? ⟨b,o+j*5+2,none⟩=some (.slice A2 n1 c2)) (e3:w.cell? ⟨b,o+j*5+3,none⟩=some (.slice B2 n2 d2)) (e4:w.cell? ⟨b,o+j*5+4,none⟩=some (.slice C2 n3 i2))
  (h1: ∀W',au w W'->Calls prog 78 #[.slice B2 n2 d2] W' fun e w'=>e= .returned (.bool b1)/\au W' w') (h2: ∀W',au w W'->Calls prog 78 #[.slice C2 n3 i2] W' fun e w'=>e= .returned (.bool b2)/\au W' w')
  (hR:(pX 5 nm ex&&gK ex&&(lL 5 n2 n3&&(b1&&b2)))=R) (hNext:lu R Q s0 u1 j w) (hRet:kR R Q s0 u1 j w) (a:Act) (ha:a=lw s0 u1 u2 (.int .i64 (j:Int)) (fun i=>a.tmps.getD i undef)):
  Code.wp prog (m6 ((dV (Tryz.f78.body.getD .skip)).getD 0 .skip)) Q a w:=by
 generalize (fun i=>a.tmps.getD i undef)=u at ha;subst ha;unfold lw;subst hs0;have hnl:=hRa.len;have HE:=G (O w (.cells #[.int .i64 5, .string (ag nm), .slice A2 n1 c2, .slice B2 n2 d2, .slice C2 n3 i2] 66));have HB:=G (ax w 66 #[.int .i64 5, .string (ag nm), .slice A2 n1 c2, .slice B2 n2 d2, .slice C2 n3 i2]);have HRa:=G (hRa.keep (.of_ext HE.out) (Q:=P) (fun _ hb _=>hb));have HI:=G hI;have HP1:=G h1;have HP2:=G h2;have HNext:=G hNext;have HRet:=G hRet;have hh:pX 5 nm ex=(nm==[]&&n1==1):=by rw[hnl];rfl
 rw[hh]at hR;have HQ:=G hR;clear hR hh hRa hI h1 h2 hNext hRet hnl
 cases hb0:(nm==[])with
 |false=>
  rw[hb0]at HQ;have HX:=HE;have HBx:=HB;have HRx:=HRa
  conv=>arg 2;whnf
  go_wp2_with fail;exact dP _ _ _ _ j _ 5 nm _ B2 C2 _ n2 n3 c2 d2 i2 false w _ P ex b1 b2 R Q _ _ (by omega) hn1 HX.out HBx.out HI.out HRx.out (fun W' h=>HP1.out W' (HX.out.trans h)) (fun W' h=>HP2.out W' (HX.out.trans h)) (cv (by first|rfl|simp) HQ.out) HNext.out HRet.out (by assumption) (by assumption) _ rfl rfl
 |true=>
  rw[hb0]at HQ;by_cases hc:n1=1
  ·subst hc;rw[show((1:Nat)==1)=true from rfl]at HQ;have HX:=HE;have HBx:=HB;have HRx:=HRa
   conv=>arg 2;whnf
   go_wp2_with fail;exact dP _ _ _ _ j _ 5 nm _ B2 C2 _ n2 n3 c2 d2 i2 true w _ P ex b1 b2 R Q _ _ (by omega) hn1 HX.out HBx.out HI.out HRx.out (fun W' h=>HP1.out W' (HX.out.trans h)) (fun W' h=>HP2.out W' (HX.out.trans h)) (cv (by first|rfl|simp) HQ.out) HNext.out HRet.out (by assumption) (by assumption) _ rfl rfl
  ·have hcf:(n1==1)=false:=beq_eq_false_iff_ne.2 hc;have hci:((n1:Int)==1)=false:=beq_eq_false_iff_ne.2 (by omega);rw[hcf]at HQ;have HX:=HE;have HBx:=HB;have HRx:=HRa
   conv=>arg 2;whnf
   go_wp2_with fail;exact dP _ _ _ _ j _ 5 nm _ B2 C2 _ n2 n3 c2 d2 i2 false w _ P ex b1 b2 R Q _ _ (by omega) hn1 HX.out HBx.out HI.out HRx.out (fun W' h=>HP1.out W' (HX.out.trans h)) (fun W' h=>HP2.out W' (HX.out.trans h)) (cv (by first|rfl|simp) HQ.out) HNext.out HRet.out (by assumption) (by assumption) _ rfl rfl
theorem BM (b o n c:Nat) (u1 u2:Value) (j:Nat) (nm:List UInt8) (A2 B2 C2:Option Addr) (n1 n2 n3 c2 d2 i2:Nat) (w:World) (P:Nat->Prop) (ex:List Ex) (b1 b2 R:Bool) (Q:Exit->Act->World->Prop) (s0:Value) (hs0:s0= .slice (some ⟨b,o,none⟩) n c) (hj:j<=1000000000) (hjn:j<n) (hn1:n1<=1073741824) (hnm:nm.length<=1073741824) (hI:jk ex) (hRa:b8 w P (.slice A2 n1 c2) ex)
  (e0:w.cell? ⟨b,o+j*5,none⟩=some (.int .i64 6)) (e1:w.cell? ⟨b,o+j*5+1,none⟩=some (.string (ag nm))) (e2:w.cell? ⟨b,o+j*5+2,none⟩=some (.slice A2 n1 c2)) (e3:w.cell? ⟨b,o+j*5+3,none⟩=some (.slice B2 n2 d2)) (e4:w.cell? ⟨b,o+j*5+4,none⟩=some (.slice C2 n3 i2))
  (h1: ∀W',au w W'->Calls prog 78 #[.slice B2 n2 d2] W' fun e w'=>e= .returned (.bool b1)/\au W' w') (h2: ∀W',au w W'->Calls prog 78 #[.slice C2 n3 i2] W' fun e w'=>e= .returned (.bool b2)/\au W' w')
  (hR:(pX 6 nm ex&&gK ex&&(lL 6 n2 n3&&(b1&&b2)))=R) (hNext:lu R Q s0 u1 j w) (hRet:kR R Q s0 u1 j w) (a:Act) (ha:a=lw s0 u1 u2 (.int .i64 (j:Int)) (fun i=>a.tmps.getD i undef)):
  Code.wp prog (m6 ((dV (Tryz.f78.body.getD .skip)).getD 0 .skip)) Q a w:=by
 generalize (fun i=>a.tmps.getD i undef)=u at ha;subst ha;unfold lw;subst hs0;have hnl:=hRa.len;have HE:=G (O w (.cells #[.int .i64 6, .string (ag nm), .slice A2 n1 c2, .slice B2 n2 d2, .slice C2 n3 i2] 66));have HB:=G (ax w 66 #[.int .i64 6, .string (ag nm), .slice A2 n1 c2, .slice B2 n2 d2, .slice C2 n3 i2]);have HRa:=G (hRa.keep (.of_ext HE.out) (Q:=P) (fun _ hb _=>hb));have HI:=G hI;have HP1:=G h1;have HP2:=G h2;have HNext:=G hNext;have HRet:=G hRet;have hh:pX 6 nm ex=(nm==[]&&decide (n1<=1)):=by rw[hnl];rfl
 rw[hh]at hR;have HQ:=G hR;clear hR hh hRa hI h1 h2 hNext hRet hnl
 cases hb0:(nm==[])with
 |false=>
  rw[hb0]at HQ;have HX:=HE;have HBx:=HB;have HRx:=HRa
  conv=>arg 2;whnf
  go_wp2_with fail;exact dP _ _ _ _ j _ 6 nm _ B2 C2 _ n2 n3 c2 d2 i2 false w _ P ex b1 b2 R Q _ _ (by omega) hn1 HX.out HBx.out HI.out HRx.out (fun W' h=>HP1.out W' (HX.out.trans h)) (fun W' h=>HP2.out W' (HX.out.trans h)) (cv (by first|rfl|simp) HQ.out) HNext.out HRet.out (by assumption) (by assumption) _ rfl rfl
 |true=>
  rw[hb0]at HQ;by_cases hc:(n1:Int)<=1
  ·have hcn:decide (n1<=1)=true:=decide_eq_true (by omega);have hcm:decide ((n1:Int)<=1)=true:=decide_eq_true hc;rw[hcn]at HQ;have HX:=HE;have HBx:=HB;have HRx:=HRa
   conv=>arg 2;whnf
   go_wp2_with fail;exact dP _ _ _ _ j _ 6 nm _ B2 C2 _ n2 n3 c2 d2 i2 true w _ P ex b1 b2 R Q _ _ (by omega) hn1 HX.out HBx.out HI.out HRx.out (fun W' h=>HP1.out W' (HX.out.trans h)) (fun W' h=>HP2.out W' (HX.out.trans h)) (cv (by first|rfl|simp) HQ.out) HNext.out HRet.out (by assumption) (by assumption) _ rfl rfl
  ·have hcn:decide (n1<=1)=false:=decide_eq_false (by omega);have hcm:decide ((n1:Int)<=1)=false:=decide_eq_false hc;rw[hcn]at HQ;have HX:=HE;have HBx:=HB;have HRx:=HRa
   conv=>arg 2;whnf
   go_wp2_with fail;exact dP _ _ _ _ j _ 6 nm _ B2 C2 _ n2 n3 c2 d2 i2 false w _ P ex b1 b2 R Q _ _ (by omega) hn1 HX.out HBx.out HI.out HRx.out (fun W' h=>HP1.out W' (HX.out.trans h)) (fun W' h=>HP2.out W' (HX.out.trans h)) (cv (by first|rfl|simp) HQ.out) HNext.out HRet.out (by assumption) (by assumption) _ rfl rfl
theorem BK (b o n c:Nat) (u1 u2:Value) (j:Nat) (nm:List UInt8) (A2 B2 C2:Option Addr) (n1 n2 n3 c2 d2 i2:Nat) (w:World) (P:Nat->Prop) (ex:List Ex) (b1 b2 R:Bool) (Q:Exit->Act->World->Prop) (s0:Value) (hs0:s0= .slice (some ⟨b,o,none⟩) n c) (hj:j<=1000000000) (hjn:j<n) (hn1:n1<=1073741824) (hnm:nm.length<=1073741824) (hI:jk ex) (hRa:b8 w P (.slice A2 n1 c2) ex)
  (e0:w.cell? ⟨b,o+j*5,none⟩=some (.int .i64 7)) (e1:w.cell? ⟨b,o+j*5+1,none⟩=some (.string (ag nm))) (e2:w.cell? ⟨b,o+j*5+2,none⟩=some (.slice A2 n1 c2)) (e3:w.cell? ⟨b,o+j*5+3,none⟩=some (.slice B2 n2 d2)) (e4:w.cell? ⟨b,o+j*5+4,none⟩=some (.slice C2 n3 i2))
  (h1: ∀W',au w W'->Calls prog 78 #[.slice B2 n2 d2] W' fun e w'=>e= .returned (.bool b1)/\au W' w') (h2: ∀W',au w W'->Calls prog 78 #[.slice C2 n3 i2] W' fun e w'=>e= .returned (.bool b2)/\au W' w')
  (hR:(pX 7 nm ex&&gK ex&&(lL 7 n2 n3&&(b1&&b2)))=R) (hNext:lu R Q s0 u1 j w) (hRet:kR R Q s0 u1 j w) (a:Act) (ha:a=lw s0 u1 u2 (.int .i64 (j:Int)) (fun i=>a.tmps.getD i undef)):
  Code.wp prog (m6 ((dV (Tryz.f78.body.getD .skip)).getD 0 .skip)) Q a w:=by
 generalize (fun i=>a.tmps.getD i undef)=u at ha;subst ha;unfold lw;subst hs0;have hnl:=hRa.len;have HE:=G (O w (.cells #[.int .i64 7, .string (ag nm), .slice A2 n1 c2, .slice B2 n2 d2, .slice C2 n3 i2] 66));have HB:=G (ax w 66 #[.int .i64 7, .string (ag nm), .slice A2 n1 c2, .slice B2 n2 d2, .slice C2 n3 i2]);have HRa:=G (hRa.keep (.of_ext HE.out) (Q:=P) (fun _ hb _=>hb));have HI:=G hI;have HP1:=G h1;have HP2:=G h2;have HNext:=G hNext;have HRet:=G hRet
 have HK:=G (fun(h:n1=1)=>show ∃(g p:Nat) (kx:Int),A2=some ⟨g,p,none⟩/\g<w.heap.size/\w.cell? ⟨g,p,none⟩=some (.int .i64 kx)/\(ex.head?.map Ex.k==some 5)=(kx==5) by
  obtain⟨g,p,a,hA,hg,hP,y0,_⟩:=hRa.at_ 0 (by omega);refine⟨g,p,_,hA,hg,by simpa using y0,?_⟩
  cases ex with
  |nil=>simp at hnl;omega
  |cons y r=>rfl)
 have hh:pX 7 nm ex=(nm==[]&&n1==1&&(ex.head?.map Ex.k==some 5)):=by rw[hnl];rfl
 rw[hh]at hR;have HQ:=G hR;clear hR hh hRa hI h1 h2 hNext hRet hnl
 cases hb0:(nm==[])with
 |false=>
  rw[hb0]at HQ;have HX:=HE;have HBx:=HB;have HRx:=HRa;clear HK
  conv=>arg 2;whnf
  go_wp2_with fail;exact dP _ _ _ _ j _ 7 nm _ B2 C2 _ n2 n3 c2 d2 i2 false w _ P ex b1 b2 R Q _ _ (by omega) hn1 HX.out HBx.out HI.out HRx.out (fun W' h=>HP1.out W' (HX.out.trans h)) (fun W' h=>HP2.out W' (HX.out.trans h)) (cv (by first|rfl|simp) HQ.out) HNext.out HRet.out (by assumption) (by assumption) _ rfl rfl
 |true=>
  rw[hb0]at HQ;by_cases hc:n1=1
  ·subst hc;obtain⟨g,p,kx,rfl,hg,hkx,hke⟩:=HK.out rfl;have hky:=(HE.out.cell g _ hg).trans hkx;rw[hke,show((1:Nat)==1)=true from rfl]at HQ;by_cases h5:kx=5
   ·subst h5;have HX:=HE;have HBx:=HB;have HRx:=HRa;clear HK
    conv=>arg 2;whnf
    go_wp2_with fail;exact dP _ _ _ _ j _ 7 nm _ B2 C2 _ n2 n3 c2 d2 i2 true w _ P ex b1 b2 R Q _ _ (by omega) hn1 HX.out HBx.out HI.out HRx.out (fun W' h=>HP1.out W' (HX.out.trans h)) (fun W' h=>HP2.out W' (HX.out.trans h)) (cv (by first|rfl|simp) HQ.out) HNext.out HRet.out (by assumption) (by assumption) _ rfl rfl
   ·have h5f:(kx==5)=false:=beq_eq_false_iff_ne.2 h5;rw[h5f]at HQ;have HX:=HE;have HBx:=HB;have HRx:=HRa;clear HK
    conv=>arg 2;whnf
    go_wp2_with fail;exact dP _ _ _ _ j _ 7 nm _ B2 C2 _ n2 n3 c2 d2 i2 false w _ P ex b1 b2 R Q _ _ (by omega) hn1 HX.out HBx.out HI.out HRx.out (fun W' h=>HP1.out W' (HX.out.trans h)) (fun W' h=>HP2.out W' (HX.out.trans h)) (cv (by first|rfl|simp) HQ.out) HNext.out HRet.out (by assumption) (by assumption) _ rfl rfl
  ·have hcf:(n1==1)=false:=beq_eq_false_iff_ne.2 hc;have hci:((n1:Int)==1)=false:=beq_eq_false_iff_ne.2 (by omega);rw[hcf]at HQ;have HX:=HE;have HBx:=HB;have HRx:=HRa;clear HK
   conv=>arg 2;whnf
   go_wp2_with fail;exact dP _ _ _ _ j _ 7 nm _ B2 C2 _ n2 n3 c2 d2 i2 false w _ P ex b1 b2 R Q _ _ (by omega) hn1 HX.out HBx.out HI.out HRx.out (fun W' h=>HP1.out W' (HX.out.trans h)) (fun W' h=>HP2.out W' (HX.out.trans h)) (cv (by first|rfl|simp) HQ.out) HNext.out HRet.out (by assumption) (by assumption) _ rfl rfl
theorem BS (k:Int) (hk: ∀i:Int,1<=i->i<=7->k≠i) (b o n c:Nat) (u1 u2:Value) (j:Nat) (nm:List UInt8) (A2 B2 C2:Option Addr) (n1 n2 n3 c2 d2 i2:Nat) (w:World) (R:Bool) (Q:Exit->Act->World->Prop) (s0:Value) (hs0:s0= .slice (some ⟨b,o,none⟩) n c) (hj:j<=1000000000) (hjn:j<n)
  (e0:w.cell? ⟨b,o+j*5,none⟩=some (.int .i64 k)) (e1:w.cell? ⟨b,o+j*5+1,none⟩=some (.string (ag nm))) (e2:w.cell? ⟨b,o+j*5+2,none⟩=some (.slice A2 n1 c2)) (e3:w.cell? ⟨b,o+j*5+3,none⟩=some (.slice B2 n2 d2)) (e4:w.cell? ⟨b,o+j*5+4,none⟩=some (.slice C2 n3 i2))
  (hR:R=false) (hRet:kR R Q s0 u1 j w) (a:Act) (ha:a=lw s0 u1 u2 (.int .i64 (j:Int)) (fun i=>a.tmps.getD i undef)):
  Code.wp prog (m6 ((dV (Tryz.f78.body.getD .skip)).getD 0 .skip)) Q a w:=by
 generalize (fun i=>a.tmps.getD i undef)=u at ha;subst ha;unfold lw;subst hs0;have HE:=G (O w (.cells #[.int .i64 k, .string (ag nm), .slice A2 n1 c2, .slice B2 n2 d2, .slice C2 n3 i2] 66));have HRet:=G hRet;have z1:(k==1)=false:=beq_eq_false_iff_ne.2 (hk 1 (by decide) (by decide));have z2:(k==2)=false:=beq_eq_false_iff_ne.2 (hk 2 (by decide) (by decide));have z3:(k==3)=false:=beq_eq_false_iff_ne.2 (hk 3 (by decide) (by decide));have z4:(k==4)=false:=beq_eq_false_iff_ne.2 (hk 4 (by decide) (by decide));have z5:(k==5)=false:=beq_eq_false_iff_ne.2 (hk 5 (by decide) (by decide));have z6:(k==6)=false:=beq_eq_false_iff_ne.2 (hk 6 (by decide) (by decide));have z7:(k==7)=false:=beq_eq_false_iff_ne.2 (hk 7 (by decide) (by decide));clear hk hRet
 cases hb0:(nm==[])with
 |true=>
  conv=>arg 2;whnf
  go_wp2_with fail;exact HRet.out hR _ _ rfl HE.out
 |false=>
  conv=>arg 2;whnf
  go_wp2_with fail;exact HRet.out hR _ _ rfl HE.out
end
section
open Go.RowKit
theorem lB: ∀(m:Nat) (xs:List St),dq xs<m->m<=1000000001-> ∀(P:Nat->Prop) (w:World) (u:Value),cM w P u xs->Calls prog 78 #[u] w fun e w'=>e= .returned (.bool (iM xs))/\au w w'
 |0,xs,h,_,_,_,_,_=>absurd h (eg _)
 |m+1,xs,h,hm,P,w,u,hu=>by
  have HIH:=G (lB m);have HMW:=G (fun(x:St) (hx:x∈xs)=>show x.wt<=1000000000/\dq x.body<m/\dq x.els<m by have:=bq hx;have:=x.wt_eq;omega);have hnl:=cw xs;obtain⟨A,c,rfl,_⟩:=hu.form;obtain⟨n,hn⟩: ∃n,xs.length=n:=⟨_,rfl⟩
  rw[hn]at hu hnl;rw[hn];have HN:=G hn;have HR:=G hu;clear hu hn;go_enter func78,ntmps78;go_wp2_with fail
  go_loopw [3] (fun vi wr=> ∃(j:Nat),vi= .int .i64 (j:Int)/\j<=n/\Hid (iM (xs.take j)=true)/\Hid (au w wr)) (fun vi _=>n-(intOf vi).toNat)
  case atStart=>exact⟨0,rfl,az _,G (by simp[iM]),G (aH w)⟩
  case round=>
   obtain⟨j,rfl,hj,HJ,HX⟩:=hrel;by_cases hlt:j<n
   ·have hjl:j<xs.length:=by have:=HN.out;omega
    obtain⟨b,o,a,g,z,rfl,hb,hP,h0,h1,h2,h3,h4,hRa,hRb,hRc⟩:=HR.out.at_ j hjl
    have HOK:=G (show ∀y,xs[j]=y->(y.ok=true->iM (xs.take (j+1))=true)/\(y.ok=false->iM xs=false) by
     rintro y rfl;refine⟨fun h=> ?_,fun h=> ?_⟩
     ·have hj0:=HJ.out;rw[dX]at hj0⊢;rw[aD hjl,dQ,hj0,eP,h];rfl
     ·rw[dX,gZ]
      exact⟨xs[j],ai hjl,by rw[h];simp⟩)
    have hmw:=HMW.out _ (ai hjl);have HO:=G (HOK.out _ rfl);clear HOK;generalize xs[j]=x at*;have e0:=(HX.out.cell b _ hb).trans h0;have e1:=(HX.out.cell b _ hb).trans h1;have e2:=(HX.out.cell b _ hb).trans h2;have e3:=(HX.out.cell b _ hb).trans h3;have e4:=(HX.out.cell b _ hb).trans h4;clear h0 h1 h2 h3 h4;obtain⟨A2,c2,rfl,_⟩:=hRa.form;obtain⟨B2,d2,rfl,_⟩:=hRb.form;obtain⟨C2,i2,rfl,_⟩:=hRc.form;have hw:=x.wt_eq;have hel:=bF x.ex;obtain⟨k,nm,ex,bd,el⟩:=x;simp only[St.k,St.nm,St.ex,St.body,St.els]at*;have hI:jk ex:=fun y hy P2 w2 A3 m2 c3 hR2=>mi y.wt y (an _) (by have:=bX hy;omega) P2 w2 A3 m2 c3 hR2;have hP1:=fun(W':World) (hW:au wr W')=>HIH.out bd (by omega) (by omega) P W' _ (hRb.keep (.of_ext (HX.out.trans hW)) (fun _ hb _=>hb));have hP2:=fun(W':World) (hW:au wr W')=>HIH.out el (by omega) (by omega) P W' _ (hRc.keep (.of_ext (HX.out.trans hW)) (fun _ hb _=>hb));have hRa':=hRa.keep (.of_ext HX.out) (Q:=P) (fun _ hb _=>hb);have hq:=St.ok_eq k nm ex bd el;generalize hx:St.ok (.mk k nm ex bd el)=R at*;have key: ∀(Q:Exit->Act->World->Prop) (s0 u1 u2:Value) (a:Act),a=lw s0 u1 u2 (.int .i64 (j:Int)) (fun i=>a.tmps.getD i undef)->s0= .slice (some ⟨b,o,none⟩) n c->lu R Q s0 u1 j wr->kR R Q s0 u1 j wr->Code.wp prog (m6 ((dV (Tryz.f78.body.getD .skip)).getD 0 .skip)) Q a wr:=by
     intro Q s0 u1 u2 a ha hs0 hNx hRt;by_cases k1:k=1
     ·subst k1;exact BR b o n c u1 u2 j nm A2 B2 C2 _ _ _ c2 d2 i2 wr P ex _ _ R Q s0 hs0 (by omega) (by omega) (by omega) (by omega) hI hRa' e0 e1 e2 e3 e4 hP1 hP2 hq.symm hNx hRt a ha
     by_cases k2:k=2
     ·subst k2;exact BQ b o n c u1 u2 j nm A2 B2 C2 _ _ _ c2 d2 i2 wr P ex _ _ R Q s0 hs0 (by omega) (by omega) (by omega) (by omega) hI hRa' e0 e1 e2 e3 e4 hP1 hP2 hq.symm hNx hRt a ha
     by_cases k3:k=3
     ·subst k3;exact BP b o n c u1 u2 j nm A2 B2 C2 _ _ _ c2 d2 i2 wr P ex _ _ R Q s0 hs0 (by omega) (by omega) (by omega) (by omega) hI hRa' e0 e1 e2 e3 e4 hP1 hP2 hq.symm hNx hRt a ha
     by_cases k4:k=4
     ·subst k4;exact BO b o n c u1 u2 j nm A2 B2 C2 _ _ _ c2 d2 i2 wr P ex _ _ R Q s0 hs0 (by omega) (by omega) (by omega) (by omega) hI hRa' e0 e1 e2 e3 e4 hP1 hP2 hq.symm hNx hRt a ha
     by_cases k5:k=5
     ·subst k5;exact BN b o n c u1 u2 j nm A2 B2 C2 _ _ _ c2 d2 i2 wr P ex _ _ R Q s0 hs0 (by omega) (by omega) (by omega) (by omega) hI hRa' e0 e1 e2 e3 e4 hP1 hP2 hq.symm hNx hRt a ha
     by_cases k6:k=6
     ·subst k6;exact BM b o n c u1 u2 j nm A2 B2 C2 _ _ _ c2 d2 i2 wr P ex _ _ R Q s0 hs0 (by omega) (by omega) (by omega) (by omega) hI hRa' e0 e1 e2 e3 e4 hP1 hP2 hq.symm hNx hRt a ha
     by_cases k7:k=7
     ·subst k7;exact BK b o n c u1 u2 j nm A2 B2 C2 _ _ _ c2 d2 i2 wr P ex _ _ R Q s0 hs0 (by omega) (by omega) (by omega) (by omega) hI hRa' e0 e1 e2 e3 e4 hP1 hP2 hq.symm hNx hRt a ha
     ·exact BS k (fun i h1 h2 h3=>by omega) b o n c u1 u2 j nm A2 B2 C2 _ _ _ c2 d2 i2 wr R Q s0 hs0 (by omega) (by omega) e0 e1 e2 e3 e4 (by rw[hq];unfold pX;rw[if_neg k1,if_neg k2,if_neg k3,if_neg k4,if_neg k5,if_neg k6,if_neg k7];rfl) hRt a ha
    refine key _ _ _ _ _ rfl rfl (fun h W' a ha hE=> ?_) (fun h W' a ha hE=> ?_)
    ·generalize (fun i=>a.tmps.getD i undef)=u at ha;generalize a.tmps.getD 2 undef=u2 at ha;subst ha;unfold lw;go_wp2_with fail;go_roundw
     case rel=>exact⟨j+1,by go_num,by omega,G (HO.out.1 h),G (HX.out.trans hE)⟩
     case measure=>simp[intOf];omega
    ·generalize (fun i=>a.tmps.getD i undef)=u at ha;subst ha;unfold lw;go_wp2_with fail;go_ret;exact⟨by rw[HO.out.2 h];rfl,HX.out.trans hE⟩
   ·have hlt': ¬(j:Int)<n:=by omega
    have hjn:j=n:=by omega
    have hQ:xs.take j=xs:=aJ (by have:=HN.out;omega);rw[hQ]at HJ;clear hQ;go_wp2_with fail;go_ret;exact⟨by rw[HJ.out];rfl,HX.out⟩
end
end Go.Proofs.YtddomeddabfinaaGreatDoor
