/-
  Parts of the proof: TyNu TyZ TyAr TyArl.
-/
import Derived.Test.YtddomeddabfinaaGreatDoorTa00
import Derived.Test.YtddomeddabfinaaGreatDoorTa44
import Derived.Test.YtddomeddabfinaaGreatDoorTa26
import Derived.Test.YtddomeddabfinaaGreatDoorTa38
set_option maxRecDepth 100000
set_option maxHeartbeats 8000000
set_option linter.unusedVariables false
set_option linter.unusedSimpArgs false
set_option linter.unusedSectionVars false
namespace Go.Proofs.YtddomeddabfinaaGreatDoor
open Go.Proofs.Tryz
section
open Go.RowKit
def DO (x:Ex) (v:Value) (w:World):Prop:= ∃A c,v= .agg #[.int .i64 x.k, .string (ah x.op), .string (ah x.nm), .string (ah x.tx), .int .i64 x.v, .slice A x.args.length c]/\cu w (fun _=>True) (.slice A x.args.length c) x.args
def CE (P:Nat->Prop) (x:Ex) (v:Value) (w:World):Prop:= ∃A c,v= .agg #[.int .i64 x.k, .string (ah x.op), .string (ah x.nm), .string (ah x.tx), .int .i64 x.v, .slice A x.args.length c]/\cu w P (.slice A x.args.length c) x.args
theorem zJ (a:Int) (w:World):CE (fun b=>w.heap.size<=b) (.mk 7 [45] [] [] 0 [.mk 6 [45] [] [] 0 [.mk 1 [] [] [] (-(a+1)) []], .mk 1 [] [] [] 1 []]) (.agg #[.int .i64 7, .string ⟨#[45]⟩, .string ⟨#[]⟩, .string ⟨#[]⟩, .int .i64 0, .slice (some ⟨w.heap.size+1+1+1,0,none⟩) 2 2]) ((((w.alloc (.cells #[.int .i64 7, .string ⟨#[45]⟩, .string ⟨#[]⟩, .string ⟨#[]⟩, .int .i64 0, .slice (some ⟨w.heap.size+1+1+1,0,none⟩) 2 2] 70)).alloc (.cells #[.int .i64 1, .string ⟨#[]⟩, .string ⟨#[]⟩, .string ⟨#[]⟩, .int .i64 (-(a+1)), .slice none 0 0] 70)).alloc (.cells #[.int .i64 6, .string ⟨#[45]⟩, .string ⟨#[]⟩, .string ⟨#[]⟩, .int .i64 0, .slice (some ⟨w.heap.size+1,0,none⟩) 1 1] 70)).alloc (.cells #[.int .i64 6, .string ⟨#[45]⟩, .string ⟨#[]⟩, .string ⟨#[]⟩, .int .i64 0, .slice (some ⟨w.heap.size+1,0,none⟩) 1 1, .int .i64 1, .string ⟨#[]⟩, .string ⟨#[]⟩, .string ⟨#[]⟩, .int .i64 1, .slice none 0 0] 70)):=by
 have b1:=((am (w.alloc (.cells #[.int .i64 7, .string ⟨#[45]⟩, .string ⟨#[]⟩, .string ⟨#[]⟩, .int .i64 0, .slice (some ⟨w.heap.size+1+1+1,0,none⟩) 2 2] 70)) 70 #[.int .i64 1, .string ⟨#[]⟩, .string ⟨#[]⟩, .string ⟨#[]⟩, .int .i64 (-(a+1)), .slice none 0 0]).alloc (.cells #[.int .i64 6, .string ⟨#[45]⟩, .string ⟨#[]⟩, .string ⟨#[]⟩, .int .i64 0, .slice (some ⟨w.heap.size+1,0,none⟩) 1 1] 70)).alloc (.cells #[.int .i64 6, .string ⟨#[45]⟩, .string ⟨#[]⟩, .string ⟨#[]⟩, .int .i64 0, .slice (some ⟨w.heap.size+1,0,none⟩) 1 1, .int .i64 1, .string ⟨#[]⟩, .string ⟨#[]⟩, .string ⟨#[]⟩, .int .i64 1, .slice none 0 0] 70);have b3:=am (((w.alloc (.cells #[.int .i64 7, .string ⟨#[45]⟩, .string ⟨#[]⟩, .string ⟨#[]⟩, .int .i64 0, .slice (some ⟨w.heap.size+1+1+1,0,none⟩) 2 2] 70)).alloc (.cells #[.int .i64 1, .string ⟨#[]⟩, .string ⟨#[]⟩, .string ⟨#[]⟩, .int .i64 (-(a+1)), .slice none 0 0] 70)).alloc (.cells #[.int .i64 6, .string ⟨#[45]⟩, .string ⟨#[]⟩, .string ⟨#[]⟩, .int .i64 0, .slice (some ⟨w.heap.size+1,0,none⟩) 1 1] 70)) 70 #[.int .i64 6, .string ⟨#[45]⟩, .string ⟨#[]⟩, .string ⟨#[]⟩, .int .i64 0, .slice (some ⟨w.heap.size+1,0,none⟩) 1 1, .int .i64 1, .string ⟨#[]⟩, .string ⟨#[]⟩, .string ⟨#[]⟩, .int .i64 1, .slice none 0 0];rw[World.size_alloc,World.size_alloc,World.size_alloc]at b3;rw[World.size_alloc]at b1;exact⟨_,_,rfl,cu.two (x:= .mk 6 [45] [] [] 0 [.mk 1 [] [] [] (-(a+1)) []]) (y:= .mk 1 [] [] [] 1 []) b3 (by show w.heap.size<=_;omega) (iD (x:= .mk 1 [] [] [] (-(a+1)) []) b1 (by show w.heap.size<=_;omega) (.nil _ _)) (.nil _ _)⟩
theorem zk (a:Int) (ha:eL a) (w:World):Calls prog 28 #[.int .i32 a] w fun e w'=>au w w'/\ ∃v,e= .returned v/\CE (fun b=>w.heap.size<=b) (bo a) v w':=by
 unfold eL at ha;obtain⟨h1,h2⟩:=ha;by_cases h0:0<=a
 ·have hn:bo a= .mk 1 [] [] [] a []:=by unfold bo;rw[if_pos h0]
  have hc:=(am w 70 #[.int .i64 1, .string ⟨#[]⟩, .string ⟨#[]⟩, .string ⟨#[]⟩, .int .i64 a, .slice none 0 0]).cell;have HE:=G (I w (.cells #[.int .i64 1, .string ⟨#[]⟩, .string ⟨#[]⟩, .string ⟨#[]⟩, .int .i64 a, .slice none 0 0] 70));have HX:=G (show CE (fun b=>w.heap.size<=b) (bo a) (.agg #[.int .i64 1, .string ⟨#[]⟩, .string ⟨#[]⟩, .string ⟨#[]⟩, .int .i64 a, .slice none 0 0]) (w.alloc (.cells #[.int .i64 1, .string ⟨#[]⟩, .string ⟨#[]⟩, .string ⟨#[]⟩, .int .i64 a, .slice none 0 0] 70))from by rw[hn];exact⟨none,0,rfl, .nil _ _⟩);generalize bo a=q at*;clear hn;go_enter func28,ntmps28;go_wp2_with fail;refine bodyPost_ret (v:= .agg #[.int .i64 1, .string ⟨#[]⟩, .string ⟨#[]⟩, .string ⟨#[]⟩, .int .i64 a, .slice none 0 0]) ?_ rfl ⟨HE.out,_,rfl,HX.out⟩;simp[results,results28,go_sem,hc]
 ·have HN:=G (show bo a= .mk 7 [45] [] [] 0 [.mk 6 [45] [] [] 0 [.mk 1 [] [] [] (-(a+1)) []], .mk 1 [] [] [] 1 []] by unfold bo;rw[if_neg h0]);have hc:=(((am w 70 #[.int .i64 7, .string ⟨#[45]⟩, .string ⟨#[]⟩, .string ⟨#[]⟩, .int .i64 0, .slice (some ⟨w.heap.size+1+1+1,0,none⟩) 2 2]).alloc (.cells #[.int .i64 1, .string ⟨#[]⟩, .string ⟨#[]⟩, .string ⟨#[]⟩, .int .i64 (-(a+1)), .slice none 0 0] 70)).alloc (.cells #[.int .i64 6, .string ⟨#[45]⟩, .string ⟨#[]⟩, .string ⟨#[]⟩, .int .i64 0, .slice (some ⟨w.heap.size+1,0,none⟩) 1 1] 70)).alloc (.cells #[.int .i64 6, .string ⟨#[45]⟩, .string ⟨#[]⟩, .string ⟨#[]⟩, .int .i64 0, .slice (some ⟨w.heap.size+1,0,none⟩) 1 1, .int .i64 1, .string ⟨#[]⟩, .string ⟨#[]⟩, .string ⟨#[]⟩, .int .i64 1, .slice none 0 0] 70)|>.cell;have HE:=G ((((I w (.cells #[.int .i64 7, .string ⟨#[45]⟩, .string ⟨#[]⟩, .string ⟨#[]⟩, .int .i64 0, .slice (some ⟨w.heap.size+1+1+1,0,none⟩) 2 2] 70)).alloc' (.cells #[.int .i64 1, .string ⟨#[]⟩, .string ⟨#[]⟩, .string ⟨#[]⟩, .int .i64 (-(a+1)), .slice none 0 0] 70)).alloc' (.cells #[.int .i64 6, .string ⟨#[45]⟩, .string ⟨#[]⟩, .string ⟨#[]⟩, .int .i64 0, .slice (some ⟨w.heap.size+1,0,none⟩) 1 1] 70)).alloc' (.cells #[.int .i64 6, .string ⟨#[45]⟩, .string ⟨#[]⟩, .string ⟨#[]⟩, .int .i64 0, .slice (some ⟨w.heap.size+1,0,none⟩) 1 1, .int .i64 1, .string ⟨#[]⟩, .string ⟨#[]⟩, .string ⟨#[]⟩, .int .i64 1, .slice none 0 0] 70));have HX:=G (show CE (fun b=>w.heap.size<=b) (bo a) (.agg #[.int .i64 7, .string ⟨#[45]⟩, .string ⟨#[]⟩, .string ⟨#[]⟩, .int .i64 0, .slice (some ⟨w.heap.size+1+1+1,0,none⟩) 2 2]) ((((w.alloc (.cells #[.int .i64 7, .string ⟨#[45]⟩, .string ⟨#[]⟩, .string ⟨#[]⟩, .int .i64 0, .slice (some ⟨w.heap.size+1+1+1,0,none⟩) 2 2] 70)).alloc (.cells #[.int .i64 1, .string ⟨#[]⟩, .string ⟨#[]⟩, .string ⟨#[]⟩, .int .i64 (-(a+1)), .slice none 0 0] 70)).alloc (.cells #[.int .i64 6, .string ⟨#[45]⟩, .string ⟨#[]⟩, .string ⟨#[]⟩, .int .i64 0, .slice (some ⟨w.heap.size+1,0,none⟩) 1 1] 70)).alloc (.cells #[.int .i64 6, .string ⟨#[45]⟩, .string ⟨#[]⟩, .string ⟨#[]⟩, .int .i64 0, .slice (some ⟨w.heap.size+1,0,none⟩) 1 1, .int .i64 1, .string ⟨#[]⟩, .string ⟨#[]⟩, .string ⟨#[]⟩, .int .i64 1, .slice none 0 0] 70))from by rw[HN.out];exact zJ a w);generalize bo a=q at*;clear HN;go_enter func28,ntmps28;go_wp2_with fail;refine bodyPost_ret (v:= .agg #[.int .i64 7, .string ⟨#[45]⟩, .string ⟨#[]⟩, .string ⟨#[]⟩, .int .i64 0, .slice (some ⟨w.heap.size+1+1+1,0,none⟩) 2 2]) ?_ rfl ⟨HE.out,_,rfl,HX.out⟩;simp[results,results28,go_sem,hc]
end
section
def oH:List UInt8:=[114,101,97,100]
def l8:List UInt8:=[119,114,105,116,101]
def pV:Ex:= .mk 3 [] [97] [] 0 []
def mb (n:Int):Ex:= .mk 5 [] oH [] 0 [bo 0,pV,bo n]
def lZ (m:Int):Ex:= .mk 5 [] l8 [] 0 [bo 1,pV,bo m]
def eN (n m:Int):Pg:=⟨[⟨[97],100⟩],[⟨bw,[],[.mk 7 [] [mb n] [] [], .mk 7 [] [lZ m] [] []]⟩]⟩
theorem wJ {n:Int} (h:eL n):(mb n).ok=true:=by
 have h0:=m9 (n:=0) (by decide);have h1:=m9 h;have h2:pV.ok=true:=by decide
 have h3:dx oH=true:=by decide
 simp[mb,Ex.ok,m8,h0,h1,h2,h3]
theorem vJ {n:Int} (h:eL n):(lZ n).ok=true:=by
 have h0:=m9 (n:=1) (by decide);have h1:=m9 h;have h2:pV.ok=true:=by decide
 have h3:dx l8=true:=by decide
 simp[lZ,Ex.ok,m8,h0,h1,h2,h3]
theorem z_ {n m:Int} (hn:eL n) (hm:eL m):gD (eN n m)=true:=by
 have hb:(eN n m).fs.all nJ=true:=by
  have h1:dx bw=true:=by decide
  have q1:=wJ hn;have q2:=vJ hm;have d1:(mb n).dep<=10:=by have:=lF n;have:=lF 0;simp only[mb,pV,Ex.dep,eU];omega
  have d2:(lZ m).dep<=10:=by have:=lF m;have:=lF 1;simp only[lZ,pV,Ex.dep,eU];omega
  have k1:(mb n).k=5:=rfl;have k2:(lZ m).k=5:=rfl;have e1:(St.mk 7 [] [mb n] [] []).ok=true:=by simp[St.ok,m8,m7,q1,k1]
  have e2:(St.mk 7 [] [lZ m] [] []).ok=true:=by simp[St.ok,m8,m7,q2,k2]
  have f1:(St.mk 7 [] [mb n] [] []).dep<=20:=by simp only[St.dep,eU,fM];omega
  have f2:(St.mk 7 [] [lZ m] [] []).dep<=20:=by simp only[St.dep,eU,fM];omega
  simp[eN,nJ,h1,e1,e2,f1,f2]
 have hv:(eN n m).vs.all pQ=true:=by
  have:pQ ⟨[97],100⟩=true:=by decide
  simp[eN,this]
 have hs:(iZ (eN n m)).length<=4000:=by
  have w1:(mb n).wt<=30:=by have:=im n;have:=im 0;simp only[mb,pV,Ex.wt,fF,oH,ac,ae];omega
  have w2:(lZ m).wt<=30:=by have:=im m;have:=im 1;simp only[lZ,pV,Ex.wt,fF,l8,ac,ae];omega
  have s1:=ly _ (wJ hn);have s2:=ly _ (vJ hm);have e:(iZ (eN n m)).length<=(cd (mb n)).length+(cd (lZ m)).length+200:=by
   have hd:gh 100=[49,48,48]:=by
    rw[gh,if_neg (by decide),show(100/10:Nat)=10 from rfl,gh,if_neg (by decide),show(10/10:Nat)=1 from rfl,gh,if_pos (by decide)];rfl
   simp[iZ,eN,j4,j3,bF,dB,iJ,eE,eM,iW,dI,bw,qv,ki,rT,hd];omega
  omega
 unfold gD;rw[hv,hb,decide_eq_true hs];rfl
theorem xX (g:Gl) (lo:Ls) (nm:List UInt8) (c:Int) (b:UInt8) (x:Int) (v:Int) (hb:b=97\/b=98) (ha:(g.arr [97]).isSome=true):lh g lo nm (some (c,[105,b,105])) 0 [bo x,pV,bo v]= .ok ():=by
 rw[lh,if_pos (by rfl),tB,de,lh,if_neg (by rcases hb with rfl|rfl<;>simp[jb]),if_neg (by rcases hb with rfl|rfl<;>simp[oa,uJ,pV,Ex.k]),if_pos (by rfl)];have:jd g lo pV.nm= .ok ():=by unfold jd;rw[if_pos (show(g.arr pV.nm).isSome=true from ha)]
 rw[this,de,lh,if_pos (by rfl),tB,de,lh]
theorem Cp (g:Gl) (lo:Ls) (n:Int) (ha:(g.arr [97]).isSome=true):kK g lo (mb n)= .ok ():=by
 have hb:dR oH=some (9,[105,97,105]):=by decide
 rw[mb,kK,if_neg (by decide),if_neg (by decide),if_neg (by decide),if_pos rfl];unfold pd;rw[hb];simp only;rw[if_pos (by rfl)];exact xX g lo _ _ _ _ _ (.inl rfl) ha
theorem Co (g:Gl) (lo:Ls) (n:Int) (ha:(g.arr [97]).isSome=true):kK g lo (lZ n)= .ok ():=by
 have hb:dR l8=some (10,[105,98,105]):=by decide
 rw[lZ,kK,if_neg (by decide),if_neg (by decide),if_neg (by decide),if_pos rfl];unfold pd;rw[hb];simp only;rw[if_pos (by rfl)];exact xX g lo _ _ _ _ _ (.inr rfl) ha
theorem tC (nm:List UInt8) (c:Int) (b:UInt8) (hb:b=97\/b=98) (hl:dR nm=some (c,[105,b,105])) (x v:Int):cN (.mk 5 [] nm [] 0 [bo x,pV,bo v])<=7:=by
 have:=oN x;have:=oN v;rw[cN,if_neg (by decide),if_neg (by decide),if_pos rfl,hl,ep,if_pos (by rfl),ep,if_neg (by rcases hb with rfl|rfl<;>simp[jb]),ep,if_pos (by rfl),ep];omega
theorem z' (n m:Int):fE (eN n m)= .ok ():=by
 obtain⟨g,hg,ha⟩: ∃g,kO (eN n m)= .ok g/\(g.arr [97]).isSome=true:=by
  refine⟨(i'.addV ⟨[97],100⟩).addF ⟨bw,[],[.mk 7 [] [mb n] [] [], .mk 7 [] [lZ m] [] []]⟩,?_,rfl⟩;have h2:i'.known eG [97]=false:=by decide
  have h3:(i'.addV ⟨[97],100⟩).known eG bw=false:=by decide
  show CR.then (ic i' [⟨[97],100⟩]) _=_;rw[show ic i' [⟨[97],100⟩]= .ok (i'.addV ⟨[97],100⟩)from by simp[ic,h2],de];show gB (i'.addV ⟨[97],100⟩) [⟨bw,[],_⟩]=_;simp[gB,h3]
 have h1: ∀lo,eI g lo [.mk 7 [] [mb n] [] [], .mk 7 [] [lZ m] [] []]= .ok lo:=fun lo=>by
  rw[eI,mT,if_neg (by decide),if_neg (by decide),if_neg (by decide),lR,Cp g lo n ha];show CR.then (mT g lo (.mk 7 [] [lZ m] [] [])) _=_;rw[mT,if_neg (by decide),if_neg (by decide),if_neg (by decide),lR,Co g lo m ha];rfl
 have h2:gY g (eN n m).fs= .ok ():=by
  show gY g [⟨bw,[],_⟩]=_;rw[gY];show CR.then (eI g eG _) _=_;rw[h1];rfl
 have h4:eS (eN n m).fs= .ok ():=by
  have q1:cN (mb n)<=7:=tC oH 9 97 (.inl rfl) (by decide) 0 n;have q2:cN (lZ m)<=7:=tC l8 10 98 (.inr rfl) (by decide) 1 m;show eS [⟨bw,[],_⟩]=_;rw[eS,if_neg (by simp[eH,p_,kU,Ci];omega)];rfl
 unfold fE;rw[hg,de,h2,de,h4]
theorem Aa {E:Ms->Ex->ER Int} {s s1 s2:Ms} (b:UInt8) (x v:Int) (hb:b=97\/b=98) (h1:E s (bo x)= .ok (x,s1)) (h2:E s1 (bo v)= .ok (v,s2)):
  dr E [105,b,105] [bo x,pV,bo v] [] 0 .no s= .ok (([x,v],v, .arr [97]),s2):=by
 rw[dr,if_pos rfl,h1,d_,dr,if_neg (by rcases hb with rfl|rfl<;>decide),if_neg (by decide),dr,if_pos rfl];show(E s1 (bo v)).then _=_;rw[h2];rfl
theorem AC {C:Cx} {m:Nat} {s:Ms} {l:Lo} {nm:List UInt8} {c:Int} {b:UInt8} (hl:dR nm=some (c,[105,b,105])) (hb:b=97\/b=98) (x v:Int) (hx:eL x) (hv:eL v) (hs:9<=s.left):
  ev C (m+4) s l (.mk 5 [] nm [] 0 [bo x,pV,bo v])=kY C.R c [x,v] v (.arr [97]) (s.spend (fD x+fD v+1)):=by
 have hc:fD x<=4:=by unfold fD;split<;>omega
 have e1:=xG C m s.step l x (by simp only[Ms.step];omega) hx;have e2:=xG C m (s.step.spend (fD x)) l v (by simp only[Ms.step,Ms.spend];omega) hv;have e3:(s.step.spend (fD x)).spend (fD v)=s.spend (fD x+fD v+1):=by
  simp only[Ms.step,Ms.spend]
  congr 1
  omega
 rw[AA (n:=m+3) (by omega),hl];show mx C.R _ s.step c [105,b,105] [bo x,pV,bo v]=_;unfold mx;rw[Aa (E:=fun s y=>ev C (m+3) s l y) b x v hb e1 e2,e3];rfl
theorem tg (s:Ms) (x a:List UInt8):(s.setA x a).arrs x=a:=by
 unfold Ms.setA;simp
def kZ (n:Int) (data:List UInt8):List UInt8:=data.take n.toNat++(List.replicate 100 (0:UInt8)).drop (min n.toNat data.length)
theorem sV (C:Cx) (n:Nat) (s:Ms) (l:Lo) (x:Ex):val C n s l [x]=ev C n s l x:=rfl
theorem vy {C:Cx} {data:List UInt8} (hR:C.R=[(1,data)]) (n:Int) (hn:eL n): ∀s:Ms,s.left=100->s.used=0->s.arrs [97]=List.replicate 100 0->st C 200 s (fun _=>none) (.mk 7 [] [mb n] [] [])=
   if n<0\/100<n then .error ⟨2,0,0,0,0,[],0⟩else .ok ((none,fun _=>none),({(s.step.spend (1+fD n+1))with used:=1}:Ms).setA [97] (kZ n data)):=by
 have hc0:fD 0=1:=rfl;have hcn:fD n<=4:=by unfold fD;split<;>omega
 intro s hs hu ha;rw[wn (n:=199) (by omega),sV,mb,AC (m:=195) (c:=9) (by decide) (.inl rfl) 0 n (by decide) hn (by simp only[Ms.step];omega),hR,hc0];unfold kY;rw[if_neg (by decide)];show ER.then (if n<0\/((s.arrs [97]).length:Int)<n\/128<n then _ else _) _=_;rw[ha,dS];by_cases hh:n<0\/100<n
 ·rw[if_pos (by omega),if_pos hh];show Except.error (⟨2,0,0,0,0,[],s.used⟩:Oc)=_;rw[hu]
 ·rw[if_neg (by omega),if_neg hh,if_neg (by decide)];have:fx [(1,data)] (s.step.spend (1+fD n+1)) 9 ([0,n].getD 0 0) ([0,n].getD 1 0) ([0,n].getD 2 0) []= .ok ((1,data),{s.step.spend (1+fD n+1)with used:=1}):=by
   unfold fx;rw[show(s.step.spend (1+fD n+1)).used=0 from hu];rfl
  rw[this,d_];show Except.ok ((none,fun _=>none),({(s.step.spend (1+fD n+1))with used:=1}:Ms).setA [97] (data.take n.toNat++(s.arrs [97]).drop (min n.toNat data.length)))=_;rw[ha];rfl
theorem vx {C:Cx} {data:List UInt8} (hR:C.R=[(1,data)]) (m:Int) (hm:eL m): ∀s:Ms,20<=s.left->s.used=1->(s.arrs [97]).length=100->st C 200 s (fun _=>none) (.mk 7 [] [lZ m] [] [])=
   if m<0\/100<m then .error ⟨2,0,0,0,0,[],1⟩else .error ⟨1,10,1,0,0,(s.arrs [97]).take m.toNat,1⟩:=by
 have hc1:fD 1=1:=rfl;have hcm:fD m<=4:=by unfold fD;split<;>omega
 intro s hs hu ha;rw[wn (n:=199) (by omega),sV,lZ,AC (m:=195) (c:=10) (by decide) (.inr rfl) 1 m (by decide) hm (by simp only[Ms.step];omega),hR,hc1];unfold kY;rw[if_neg (by decide)];show ER.then (if m<0\/((s.arrs [97]).length:Int)<m\/128<m then _ else _) _=_;rw[ha];by_cases hh:m<0\/100<m
 ·rw[if_pos (by omega),if_pos hh];show Except.error (⟨2,0,0,0,0,[],s.used⟩:Oc)=_;rw[hu]
 ·rw[if_neg (by omega),if_neg hh,if_pos rfl];have:fx [(1,data)] (s.step.spend (1+fD m+1)) 10 ([1,m].getD 0 0) 0 0 ((Dt.rd (s.step.spend (1+fD m+1)) (.arr [97])).take m.toNat)= .error ⟨1,10,1,0,0,(s.arrs [97]).take m.toNat,1⟩:=by
   unfold fx;rw[show(s.step.spend (1+fD m+1)).used=1 from hu];rfl
  rw[this];rfl
theorem yW (n m:Int) (hn:eL n) (hm:eL m) (data:List UInt8):kx (eN n m) [(1,data)] 100=
  if n<0\/100<n then⟨2,0,0,0,0,[],0⟩else if m<0\/100<m then⟨2,0,0,0,0,[],1⟩else⟨1,10,1,0,0,(kZ n data).take m.toNat,1⟩:=by
 have h0:gP (eN n m).fs bw=⟨bw,[],[.mk 7 [] [mb n] [] [], .mk 7 [] [lZ m] [] []]⟩:=by simp[eN,gP]
 generalize hC:cx (eN n m) [(1,data)]=C;have hR:C.R=[(1,data)]:=by rw[<-hC];rfl
 have ha0:fR (eN n m).vs=fun x=>if x=[97]then List.replicate 100 0 else[]:=by
  funext x;simp only[eN,fR];by_cases h:x=[97]<;>simp[h]
 have hfr:fZ ⟨bw,[],[.mk 7 [] [mb n] [] [], .mk 7 [] [lZ m] [] []]⟩=32:=by simp[fZ,eH,p_]
 have hl:f5 (qi (fun _=>none) [] []) [.mk 7 [] [mb n] [] [], .mk 7 [] [lZ m] [] []]=fun _=>none:=by simp[f5,sH,qi]
 have hc0:fD 0=1:=rfl;have hc1:fD 1=1:=rfl;have hcn:fD n<=4:=by unfold fD;split<;>omega
 have step1:=vy hR n hn;have step2:=vx hR m hm;unfold kx wH;rw[h0,hC];unfold fq;rw[hfr,if_neg (by show ¬1024<0+32;decide)];simp only[hl];have e1:=step1 {vH (eN n m) 100 with stk:=(vH (eN n m) 100).stk+32} rfl rfl (by show fR (eN n m).vs [97]=_;rw[ha0];rfl);simp only[lw];rw[e1];by_cases hh:n<0\/100<n
 ·rw[if_pos hh,if_pos hh];rfl
 ·rw[if_neg hh,if_neg hh,d_];simp only;have hlen:(kZ n data).length=100:=by
   unfold kZ;rw[Z,be,bg,dS];omega
  have e2:=step2 (({(Ms.spend (Ms.step {vH (eN n m) 100 with stk:=(vH (eN n m) 100).stk+32}) (1+fD n+1))with used:=1}:Ms).setA [97] (kZ n data)) (by show 20<=100-1-(1+fD n+1);omega) rfl (by rw[tg];exact hlen);rw[e2];have e3:(({(Ms.spend (Ms.step {vH (eN n m) 100 with stk:=(vH (eN n m) 100).stk+32}) (1+fD n+1))with used:=1}:Ms).setA [97] (kZ n data)).arrs [97]=kZ n data:=tg _ _ _;rw[e3];by_cases hm2:m<0\/100<m
  ·rw[if_pos hm2,if_pos hm2];rfl
  ·rw[if_neg hm2,if_neg hm2];rfl
end
section
open Go.RowKit
theorem qB (A B:Option Addr) (ca cb n m:Nat) (l q:List UInt8) (w:World) (hn:l.length=n) (hm:q.length=m) (h1:Sl w A ca l) (h2:Sl w B cb q):Calls prog 30 #[.slice A n ca, .slice B m cb] w fun e w'=>e= .returned (.bool (l==q))/\w=w':=by
 have k1:=tO hn h1;have k2:=tO hm h2;clear h1 h2;go_enter func30,ntmps30;go_wp2;go_ret;exact⟨ti (by simp),rfl⟩
theorem lE (k:Int) (h1: -32768<=k) (h2:k<=32767) (w:World):Calls prog 29 #[.int .i16 k] w fun e w'=>au w w'/\ ∃v,e= .returned v/\DO (bo k) v w':=by
 have HN:=G (zk k (by unfold eL;omega) (w.alloc (.cells #[.int .i64 0, .string ⟨#[]⟩, .string ⟨#[]⟩, .string ⟨#[]⟩, .int .i64 0, .slice none 0 0] 70)));have HB:=G (am w 70 #[.int .i64 0, .string ⟨#[]⟩, .string ⟨#[]⟩, .string ⟨#[]⟩, .int .i64 0, .slice none 0 0]);have HX:=G (I w (.cells #[.int .i64 0, .string ⟨#[]⟩, .string ⟨#[]⟩, .string ⟨#[]⟩, .int .i64 0, .slice none 0 0] 70));generalize bo k=x at*;go_enter func29,ntmps29;go_wp2_with (go_at_call 28;refine HN.out.mono ?_;rintro e w1 ⟨hE,v,rfl,A,c,rfl,hv⟩;have HE:=G (HX.out.trans hE);have HB1:=G (HB.out.ext hE);have HV:=G hv;have c0:=HB1.out.cell;have z0:=HB1.out.frozen;clear hE hv HN HB HX);have hg:=cS w.heap.size [.int .i64 x.k, .string (ah x.op), .string (ah x.nm), .string (ah x.tx), .int .i64 x.v, .slice A x.args.length c] 0 w1;have hb:=oq HB1.out (.int .i64 x.k) (.string (ah x.op)) (.string (ah x.nm)) (.string (ah x.tx)) (.int .i64 x.v) (.slice A x.args.length c);have hx:=HE.out.grown hg (fun k e=>by injection e with e;omega);have hv:=HV.out.keep (.of_grown hg (fun b hb e=>by injection e with e;rw[World.size_alloc]at hb;omega)) (Q:=fun _=>True) (fun _ _ _=>trivial);have hall:au w ((((((w1.setCell ⟨w.heap.size,0,none⟩ (.int .i64 x.k)).setCell ⟨w.heap.size,1,none⟩ (.string (ah x.op))).setCell ⟨w.heap.size,2,none⟩ (.string (ah x.nm))).setCell ⟨w.heap.size,3,none⟩ (.string (ah x.tx))).setCell ⟨w.heap.size,4,none⟩ (.int .i64 x.v)).setCell ⟨w.heap.size,5,none⟩ (.slice A x.args.length c))/\aQ ((((((w1.setCell ⟨w.heap.size,0,none⟩ (.int .i64 x.k)).setCell ⟨w.heap.size,1,none⟩ (.string (ah x.op))).setCell ⟨w.heap.size,2,none⟩ (.string (ah x.nm))).setCell ⟨w.heap.size,3,none⟩ (.string (ah x.tx))).setCell ⟨w.heap.size,4,none⟩ (.int .i64 x.v)).setCell ⟨w.heap.size,5,none⟩ (.slice A x.args.length c)) w.heap.size 70 #[.int .i64 x.k, .string (ah x.op), .string (ah x.nm), .string (ah x.tx), .int .i64 x.v, .slice A x.args.length c]/\cu ((((((w1.setCell ⟨w.heap.size,0,none⟩ (.int .i64 x.k)).setCell ⟨w.heap.size,1,none⟩ (.string (ah x.op))).setCell ⟨w.heap.size,2,none⟩ (.string (ah x.nm))).setCell ⟨w.heap.size,3,none⟩ (.string (ah x.tx))).setCell ⟨w.heap.size,4,none⟩ (.int .i64 x.v)).setCell ⟨w.heap.size,5,none⟩ (.slice A x.args.length c)) (fun _=>True) (.slice A x.args.length c) x.args:=⟨hx,hb,hv⟩
 clear hx hb hv hg HE HB1 HV c0 z0;generalize ((((((w1.setCell ⟨w.heap.size,0,none⟩ (.int .i64 x.k)).setCell ⟨w.heap.size,1,none⟩ (.string (ah x.op))).setCell ⟨w.heap.size,2,none⟩ (.string (ah x.nm))).setCell ⟨w.heap.size,3,none⟩ (.string (ah x.tx))).setCell ⟨w.heap.size,4,none⟩ (.int .i64 x.v)).setCell ⟨w.heap.size,5,none⟩ (.slice A x.args.length c))=W at hall⊢;obtain⟨hx,hb,hv⟩:=hall;have hc:=hb.cell;refine bodyPost_ret (v:= .agg #[.int .i64 x.k, .string (ah x.op), .string (ah x.nm), .string (ah x.tx), .int .i64 x.v, .slice A x.args.length c]) ?_ rfl ⟨hx,_,rfl,A,c,rfl,hv⟩;simp[results,results29,go_sem,hc]
theorem cu.three {w:World} {P:Nat->Prop} {gb:Nat} {e:TypeId} {x y z:Ex} {a b c:Value} (hB:aQ w gb e #[.int .i64 x.k, .string (ah x.op), .string (ah x.nm), .string (ah x.tx), .int .i64 x.v,a, .int .i64 y.k, .string (ah y.op), .string (ah y.nm), .string (ah y.tx), .int .i64 y.v,b, .int .i64 z.k, .string (ah z.op), .string (ah z.nm), .string (ah z.tx), .int .i64 z.v,c]) (hP:P gb) (h:cu w P a x.args) (h':cu w P b y.args) (h'':cu w P c z.args):cu w P (.slice (some ⟨gb,0,none⟩) 3 3) [x,y,z]:=by
 refine .row gb 0 3 3 [x,y,z] (fun i=>if i=0 then a else if i=1 then b else c) hP hB.lt rfl (ag _) (by simp[maxLen]) (fun i hi=> ?_) (fun i hi=> ?_)
 ·have hi:i<3:=hi;obtain rfl|rfl|rfl:i=0\/i=1\/i=2:=by omega
  ·exact⟨hB.cell 0,hB.cell 1,hB.cell 2,hB.cell 3,hB.cell 4,hB.cell 5⟩
  ·exact⟨hB.cell 6,hB.cell 7,hB.cell 8,hB.cell 9,hB.cell 10,hB.cell 11⟩
  ·exact⟨hB.cell 12,hB.cell 13,hB.cell 14,hB.cell 15,hB.cell 16,hB.cell 17⟩
 ·have hi:i<3:=hi;obtain rfl|rfl|rfl:i=0\/i=1\/i=2:=by omega
  ·exact h
  ·exact h'
  ·exact h''
theorem BA {n m:Int} {V:World} {A B:Option Addr} {c d:Nat} (s:Nat) (hs:V.heap.size=s) (hX:cu V (fun _=>True) (.slice A 3 c) (mb n).args) (hY:cu V (fun _=>True) (.slice B 3 d) (lZ m).args):
  ∀W,W=((((((V.alloc (.cells #[.string ⟨#[97]⟩, .int .i64 100] 85)).alloc (.cells #[.int .i64 5, .string ⟨#[]⟩, .string ⟨#[114,101,97,100]⟩, .string ⟨#[]⟩, .int .i64 0, .slice A 3 c] 70)).alloc (.cells #[.int .i64 5, .string ⟨#[]⟩, .string ⟨#[119,114,105,116,101]⟩, .string ⟨#[]⟩, .int .i64 0, .slice B 3 d] 70)).alloc (.cells #[.int .i64 7, .string ⟨#[]⟩, .slice (some ⟨s+1,0,none⟩) 1 1, .slice none 0 0, .slice none 0 0, .int .i64 7, .string ⟨#[]⟩, .slice (some ⟨s+1+1,0,none⟩) 1 1, .slice none 0 0, .slice none 0 0] 72)).alloc (.cells #[.string ⟨#[109,97,105,110]⟩, .slice none 0 0, .slice (some ⟨s+1+1+1,0,none⟩) 2 2] 59)).alloc (.cells #[.slice (some ⟨s,0,none⟩) 1 1, .slice (some ⟨s+1+1+1+1,0,none⟩) 1 1] 34))->
   au V W/\li W (fun _=>True) (.slice (some ⟨s,0,none⟩) 1 1) (eN n m).vs/\lW W (fun _=>True) (.slice (some ⟨s+1+1+1+1,0,none⟩) 1 1) (eN n m).fs/\aQ W (s+1+1+1+1+1) 34 #[.slice (some ⟨s,0,none⟩) 1 1, .slice (some ⟨s+1+1+1+1,0,none⟩) 1 1]:=by
 rintro W rfl;have b0:=(((((am V 85 #[.string ⟨#[97]⟩, .int .i64 100]).alloc (.cells #[.int .i64 5, .string ⟨#[]⟩, .string ⟨#[114,101,97,100]⟩, .string ⟨#[]⟩, .int .i64 0, .slice A 3 c] 70)).alloc (.cells #[.int .i64 5, .string ⟨#[]⟩, .string ⟨#[119,114,105,116,101]⟩, .string ⟨#[]⟩, .int .i64 0, .slice B 3 d] 70)).alloc (.cells #[.int .i64 7, .string ⟨#[]⟩, .slice (some ⟨s+1,0,none⟩) 1 1, .slice none 0 0, .slice none 0 0, .int .i64 7, .string ⟨#[]⟩, .slice (some ⟨s+1+1,0,none⟩) 1 1, .slice none 0 0, .slice none 0 0] 72)).alloc (.cells #[.string ⟨#[109,97,105,110]⟩, .slice none 0 0, .slice (some ⟨s+1+1+1,0,none⟩) 2 2] 59)).alloc (.cells #[.slice (some ⟨s,0,none⟩) 1 1, .slice (some ⟨s+1+1+1+1,0,none⟩) 1 1] 34);rw[hs]at b0;have b1:=((((am (V.alloc (.cells #[.string ⟨#[97]⟩, .int .i64 100] 85)) 70 #[.int .i64 5, .string ⟨#[]⟩, .string ⟨#[114,101,97,100]⟩, .string ⟨#[]⟩, .int .i64 0, .slice A 3 c]).alloc (.cells #[.int .i64 5, .string ⟨#[]⟩, .string ⟨#[119,114,105,116,101]⟩, .string ⟨#[]⟩, .int .i64 0, .slice B 3 d] 70)).alloc (.cells #[.int .i64 7, .string ⟨#[]⟩, .slice (some ⟨s+1,0,none⟩) 1 1, .slice none 0 0, .slice none 0 0, .int .i64 7, .string ⟨#[]⟩, .slice (some ⟨s+1+1,0,none⟩) 1 1, .slice none 0 0, .slice none 0 0] 72)).alloc (.cells #[.string ⟨#[109,97,105,110]⟩, .slice none 0 0, .slice (some ⟨s+1+1+1,0,none⟩) 2 2] 59)).alloc (.cells #[.slice (some ⟨s,0,none⟩) 1 1, .slice (some ⟨s+1+1+1+1,0,none⟩) 1 1] 34);rw[World.size_alloc,hs]at b1;have b2:=(((am ((V.alloc (.cells #[.string ⟨#[97]⟩, .int .i64 100] 85)).alloc (.cells #[.int .i64 5, .string ⟨#[]⟩, .string ⟨#[114,101,97,100]⟩, .string ⟨#[]⟩, .int .i64 0, .slice A 3 c] 70)) 70 #[.int .i64 5, .string ⟨#[]⟩, .string ⟨#[119,114,105,116,101]⟩, .string ⟨#[]⟩, .int .i64 0, .slice B 3 d]).alloc (.cells #[.int .i64 7, .string ⟨#[]⟩, .slice (some ⟨s+1,0,none⟩) 1 1, .slice none 0 0, .slice none 0 0, .int .i64 7, .string ⟨#[]⟩, .slice (some ⟨s+1+1,0,none⟩) 1 1, .slice none 0 0, .slice none 0 0] 72)).alloc (.cells #[.string ⟨#[109,97,105,110]⟩, .slice none 0 0, .slice (some ⟨s+1+1+1,0,none⟩) 2 2] 59)).alloc (.cells #[.slice (some ⟨s,0,none⟩) 1 1, .slice (some ⟨s+1+1+1+1,0,none⟩) 1 1] 34);rw[World.size_alloc,World.size_alloc,hs]at b2;have b3:=((am (((V.alloc (.cells #[.string ⟨#[97]⟩, .int .i64 100] 85)).alloc (.cells #[.int .i64 5, .string ⟨#[]⟩, .string ⟨#[114,101,97,100]⟩, .string ⟨#[]⟩, .int .i64 0, .slice A 3 c] 70)).alloc (.cells #[.int .i64 5, .string ⟨#[]⟩, .string ⟨#[119,114,105,116,101]⟩, .string ⟨#[]⟩, .int .i64 0, .slice B 3 d] 70)) 72 #[.int .i64 7, .string ⟨#[]⟩, .slice (some ⟨s+1,0,none⟩) 1 1, .slice none 0 0, .slice none 0 0, .int .i64 7, .string ⟨#[]⟩, .slice (some ⟨s+1+1,0,none⟩) 1 1, .slice none 0 0, .slice none 0 0]).alloc (.cells #[.string ⟨#[109,97,105,110]⟩, .slice none 0 0, .slice (some ⟨s+1+1+1,0,none⟩) 2 2] 59)).alloc (.cells #[.slice (some ⟨s,0,none⟩) 1 1, .slice (some ⟨s+1+1+1+1,0,none⟩) 1 1] 34);rw[World.size_alloc,World.size_alloc,World.size_alloc,hs]at b3;have b4:=(am ((((V.alloc (.cells #[.string ⟨#[97]⟩, .int .i64 100] 85)).alloc (.cells #[.int .i64 5, .string ⟨#[]⟩, .string ⟨#[114,101,97,100]⟩, .string ⟨#[]⟩, .int .i64 0, .slice A 3 c] 70)).alloc (.cells #[.int .i64 5, .string ⟨#[]⟩, .string ⟨#[119,114,105,116,101]⟩, .string ⟨#[]⟩, .int .i64 0, .slice B 3 d] 70)).alloc (.cells #[.int .i64 7, .string ⟨#[]⟩, .slice (some ⟨s+1,0,none⟩) 1 1, .slice none 0 0, .slice none 0 0, .int .i64 7, .string ⟨#[]⟩, .slice (some ⟨s+1+1,0,none⟩) 1 1, .slice none 0 0, .slice none 0 0] 72)) 59 #[.string ⟨#[109,97,105,110]⟩, .slice none 0 0, .slice (some ⟨s+1+1+1,0,none⟩) 2 2]).alloc (.cells #[.slice (some ⟨s,0,none⟩) 1 1, .slice (some ⟨s+1+1+1+1,0,none⟩) 1 1] 34);rw[World.size_alloc,World.size_alloc,World.size_alloc,World.size_alloc,hs]at b4;have b5:=am (((((V.alloc (.cells #[.string ⟨#[97]⟩, .int .i64 100] 85)).alloc (.cells #[.int .i64 5, .string ⟨#[]⟩, .string ⟨#[114,101,97,100]⟩, .string ⟨#[]⟩, .int .i64 0, .slice A 3 c] 70)).alloc (.cells #[.int .i64 5, .string ⟨#[]⟩, .string ⟨#[119,114,105,116,101]⟩, .string ⟨#[]⟩, .int .i64 0, .slice B 3 d] 70)).alloc (.cells #[.int .i64 7, .string ⟨#[]⟩, .slice (some ⟨s+1,0,none⟩) 1 1, .slice none 0 0, .slice none 0 0, .int .i64 7, .string ⟨#[]⟩, .slice (some ⟨s+1+1,0,none⟩) 1 1, .slice none 0 0, .slice none 0 0] 72)).alloc (.cells #[.string ⟨#[109,97,105,110]⟩, .slice none 0 0, .slice (some ⟨s+1+1+1,0,none⟩) 2 2] 59)) 34 #[.slice (some ⟨s,0,none⟩) 1 1, .slice (some ⟨s+1+1+1+1,0,none⟩) 1 1];rw[World.size_alloc,World.size_alloc,World.size_alloc,World.size_alloc,World.size_alloc,hs]at b5;have hE:au V ((((((V.alloc (.cells #[.string ⟨#[97]⟩, .int .i64 100] 85)).alloc (.cells #[.int .i64 5, .string ⟨#[]⟩, .string ⟨#[114,101,97,100]⟩, .string ⟨#[]⟩, .int .i64 0, .slice A 3 c] 70)).alloc (.cells #[.int .i64 5, .string ⟨#[]⟩, .string ⟨#[119,114,105,116,101]⟩, .string ⟨#[]⟩, .int .i64 0, .slice B 3 d] 70)).alloc (.cells #[.int .i64 7, .string ⟨#[]⟩, .slice (some ⟨s+1,0,none⟩) 1 1, .slice none 0 0, .slice none 0 0, .int .i64 7, .string ⟨#[]⟩, .slice (some ⟨s+1+1,0,none⟩) 1 1, .slice none 0 0, .slice none 0 0] 72)).alloc (.cells #[.string ⟨#[109,97,105,110]⟩, .slice none 0 0, .slice (some ⟨s+1+1+1,0,none⟩) 2 2] 59)).alloc (.cells #[.slice (some ⟨s,0,none⟩) 1 1, .slice (some ⟨s+1+1+1+1,0,none⟩) 1 1] 34)):=(((((I V _).alloc' _).alloc' _).alloc' _).alloc' _).alloc' _;refine⟨hE,⟨_,1,rfl, .inr ⟨ag _,by simp[maxLen],_,_,rfl,trivial,b0.lt,fun i hi=> ?_⟩⟩,⟨_,1,rfl, .inr ⟨ag _,by simp[maxLen],_,_,rfl,trivial,b4.lt,fun _=> .slice none 0 0,fun _=> .slice (some ⟨s+1+1+1,0,none⟩) 2 2,fun i hi=> ?_⟩⟩,b5⟩
 ·have hi:i=0:=by simpa[eN]using hi
  subst hi;exact⟨b0.cell 0,b0.cell 1⟩
 have hi:i=0:=by simpa[eN]using hi
 subst hi;refine⟨b4.cell 0,b4.cell 1,b4.cell 2, .nil_ _ _,?_⟩;refine .row _ 0 2 2 [.mk 7 [] [mb n] [] [], .mk 7 [] [lZ m] [] []] (fun i=>if i=0 then .slice (some ⟨s+1,0,none⟩) 1 1 else .slice (some ⟨s+1+1,0,none⟩) 1 1) (fun _=> .slice none 0 0) (fun _=> .slice none 0 0) trivial b3.lt rfl (ag _) (by simp[maxLen]) (fun i hi=> ?_) (fun i hi=> ?_) (fun i hi=> ?_) (fun i hi=> ?_);all_goals
  have hi:i<2:=hi;obtain rfl|rfl:i=0\/i=1:=by omega
 ·exact⟨b3.cell 0,b3.cell 1,b3.cell 2,b3.cell 3,b3.cell 4⟩
 ·exact⟨b3.cell 5,b3.cell 6,b3.cell 7,b3.cell 8,b3.cell 9⟩
 ·exact iD (x:=mb n) b1 trivial (hX.keep (.of_ext hE) (fun _ _ _=>trivial))
 ·exact iD (x:=lZ m) b2 trivial (hY.keep (.of_ext hE) (fun _ _ _=>trivial))
 all_goals exact .nil _ _
--LAW
end
section
open Go.RowKit
theorem yi {n m:Int} (hn:eL n) (hm:eL m):(gQ (eN n m)).2=0:=by
 unfold gQ;rw[z_ hn hm,z' n m];rfl
theorem BB {n m:Int} (hn:eL n) (hm:eL m):ld (eN n m)<=6000000:=by
 have:=im n;have:=im m;have:=im 0;have:=im 1;simp[ld,eN,Fc.wt,bw,fj,St.wt,fF,mb,lZ,pV,Ex.wt,oH,l8];omega
theorem Sl.tk {w:World} {A:Option Addr} {cap:Nat} {l:List UInt8} (h:Sl w A cap l) (n:Nat):Sl w A cap (l.take n):=by
 refine⟨by have:=h.le;rw[be];omega,h.max,h.nil,?_⟩;rcases h.rd with rfl|⟨b,off,rfl,hb,hc⟩
 ·exact .inl (by simp)
 ·exact .inr ⟨b,off,rfl,hb,fun i hi=>by rw[eO];exact hc i (by rw[be]at hi;omega)⟩
theorem Sl.bl {w:World} {A:Option Addr} {c:Nat} {l:List UInt8} (h:Sl w A c l): ∀b o,A=some ⟨b,o,none⟩->l≠ []->b<w.heap.size:=fun b o e hn=>by
 rcases h.rd with h0|⟨b',o',ha,hb,_⟩
 ·exact absurd h0 hn
 ·rw[e]at ha;injection ha with ha;injection ha with ha;omega
theorem yS (nn len:Nat) (data:List UInt8) (hl:data.length=len) (hn:nn<=100):yr (List.replicate 100 0) 0 ((data.take (min nn len)).take 100)=kZ (nn:Int) data:=by
 subst hl;have e:(data.take (min nn data.length)).take 100=data.take nn:=by
  rw[List.take_take,show min 100 (min nn data.length)=min nn data.length by omega];by_cases h:nn<=data.length
  ·rw[Nat.min_eq_left h]
  ·rw[Nat.min_eq_right (by omega),bC (ag _),bC (by omega)]
 rw[e];unfold yr kZ;rw[be];simp
theorem ry (n m:Int) (hn:eL n) (hm:eL m) (data:List UInt8): ∃(k cl p0:Int) (dl:List UInt8) (u:Nat),kx (eN n m) [(1,data)] 100=⟨k,cl,p0,0,0,dl,u⟩/\
  (((n<0\/(0<=n/\100<n)\/(0<=n/\n<=100/\m<0)\/(0<=n/\n<=100/\0<=m/\100<m))/\k=2)\/((0<=n/\n<=100/\0<=m/\m<=100)/\k=1/\cl=10/\p0=1/\u=1/\dl=(kZ n data).take m.toNat)):=by
 rw[yW n m hn hm data];split
 ·exact⟨2,0,0,[],0,rfl, .inl ⟨by omega,rfl⟩⟩
 split
 ·exact⟨2,0,0,[],1,rfl, .inl ⟨by omega,rfl⟩⟩
 ·exact⟨1,10,1,_,1,rfl, .inr ⟨by omega,rfl,rfl,rfl,rfl,rfl⟩⟩
theorem qo (data:List UInt8) (A0:Option Addr) (c0:Nat) (n m:Int) (hn1: -32768<=n) (hn2:n<=32767) (hm1: -32768<=m) (hm2:m<=32767) (w:World) (hd:Sl w A0 c0 data) (hz:EZ w) (ht:dg w w.heap.size) (hB:BT w):Calls prog 8 #[.slice A0 data.length c0, .int .i16 n, .int .i16 m] w fun e w'=>e= .returned (.bool true)/\au w w':=by
 have HW:=G (ru w hz ht hB);obtain⟨len,hlen⟩: ∃k,data.length=k:=⟨_,rfl⟩
 have HL:=G hlen;rw[hlen];by_cases hl:len<=300
 case neg=>
  have hl':300<len:=by omega
  have hmx:len<=9223372036854775807:=by have:=hd.max;have:=hd.le;unfold maxLen at*;omega
  clear hz ht hB hd hlen;go_enter func8,ntmps8;go_wp2_with (go_at_call 11;refine HW.out.mono ?_;rintro e w1 ⟨rfl,hE⟩;have HE1:=G hE;clear hE HW);go_ret;exact⟨rfl,HE1.out⟩
 have H0:=G (fun W=>lE 0 (by omega) (by omega) W);have Hn:=G (fun W=>lE n hn1 hn2 W);have H1:=G (fun W=>lE 1 (by omega) (by omega) W);have Hm:=G (fun W=>lE m hm1 hm2 W);have HD:=G hd;have HS:=G (show EZ w/\dg w w.heap.size/\BT w from⟨hz,ht,hB⟩);have hn:eL n:=by unfold eL;omega
 have hm:eL m:=by unfold eL;omega
 obtain⟨k,cl,p0,dl,u,hrun,hcs⟩:=ry n m hn hm data;obtain⟨dn,hdn⟩: ∃k,dl.length=k:=⟨_,rfl⟩
 have HCS:=G hcs;have HDN:=G hdn
 have HR:=G (show ∀(W:World) (A B:Option Addr) (n' c m' d b:Nat),au w W->li W (fun _=>True) (.slice A n' c) (eN n m).vs->lW W (fun _=>True) (.slice B m' d) (eN n m).fs->aQ W b 80 #[.int .i64 1, .slice A0 len c0]->Calls prog 17 #[.agg #[.slice A n' c, .slice B m' d], .slice (some ⟨b,0,none⟩) 1 1, .int .i64 100] W fun e w'=>au W w'/\ ∃A c,e= .returned (.tuple #[.agg #[.int .i64 k, .int .i64 cl, .int .i64 p0, .int .i64 0, .int .i64 0, .slice A dn c, .int .i64 u], .int .i64 0])/\Sl w' A c dl from fun W A B n' c m' d b hE hV hF hb=>by
  refine(r9 _ (BB hn hm) (yi hn hm) [(1,data)] _ W A B n' c m' d hV hF (fT ht hE) (hB.ext hE) ⟨_,1,rfl, .inr ⟨ag _,by simp[maxLen],b,0,rfl,trivial,hb.lt,fun _=>A0,fun _=>c0,fun i hi=> ?_⟩⟩ 100 (by decide)).mono fun e w' hh=> ?_
  ·have hi:i=0:=by simpa using hi
   subst hi;subst hlen;exact⟨hb.cell 0,hb.cell 1,hd.ext hE,fun _ _ _ _=>trivial⟩
  rw[hrun]at hh;obtain⟨h1,A,c,h2,h3⟩:=hh;subst hdn
  exact⟨h1,A,c,h2,h3⟩)
 clear hz ht hB hd hlen hrun hcs hdn hn hm;go_enter func8,ntmps8
 go_upto_region 6 with(go_at_call 11;refine HW.out.mono ?_;rintro e w1 ⟨rfl,hE⟩;have HE1:=G hE;clear hE HW)
 go_upto_region 7 with(first
  |(go_at_call 29;refine(H0.out _).mono ?_;rintro e w2 ⟨hE,v,rfl,A2,c2,rfl,hr⟩;have Hw2:=G (HE1.out.trans hE);have Ra0:=G hr;clear hE hr H0 HE1)
  |(go_at_call 29;refine(Hn.out _).mono ?_;rintro e w3 ⟨hE,v,rfl,A3,c3,rfl,hr⟩;have Hw3:=G (Hw2.out.trans hE);have Rb:=G hr;have Ra:=G (Ra0.out.keep (.of_ext hE) (Q:=fun _=>True) (fun _ _ _=>trivial));clear hE hr Hn Hw2 Ra0))
 obtain⟨W3,hW3,hxW3,hrW3,hbW3⟩: ∃W,(w3.alloc (.cells #[.int .i64 (bo 0).k, .string (ah (bo 0).op), .string (ah (bo 0).nm), .string (ah (bo 0).tx), .int .i64 (bo 0).v, .slice A2 (bo 0).args.length c2, .int .i64 3, .string ⟨#[]⟩, .string ⟨#[97]⟩, .string ⟨#[]⟩, .int .i64 0, .slice none 0 0, .int .i64 (bo n).k, .string (ah (bo n).op), .string (ah (bo n).nm), .string (ah (bo n).tx), .int .i64 (bo n).v, .slice A3 (bo n).args.length c3] 70)).alloc (.cells #[.int .i64 5, .string ⟨#[]⟩, .string ⟨#[114,101,97,100]⟩, .string ⟨#[]⟩, .int .i64 0, .slice (some ⟨w3.heap.size,0,none⟩) 3 3] 70)=W/\au w W/\cu W (fun _=>True) (.slice (some ⟨w3.heap.size,0,none⟩) 3 3) (mb n).args/\aQ W (w3.heap.size+1) 70 #[.int .i64 5, .string ⟨#[]⟩, .string ⟨#[114,101,97,100]⟩, .string ⟨#[]⟩, .int .i64 0, .slice (some ⟨w3.heap.size,0,none⟩) 3 3]:=by
  have hE:=(I w3 (.cells #[.int .i64 (bo 0).k, .string (ah (bo 0).op), .string (ah (bo 0).nm), .string (ah (bo 0).tx), .int .i64 (bo 0).v, .slice A2 (bo 0).args.length c2, .int .i64 3, .string ⟨#[]⟩, .string ⟨#[97]⟩, .string ⟨#[]⟩, .int .i64 0, .slice none 0 0, .int .i64 (bo n).k, .string (ah (bo n).op), .string (ah (bo n).nm), .string (ah (bo n).tx), .int .i64 (bo n).v, .slice A3 (bo n).args.length c3] 70)).alloc' (.cells #[.int .i64 5, .string ⟨#[]⟩, .string ⟨#[114,101,97,100]⟩, .string ⟨#[]⟩, .int .i64 0, .slice (some ⟨w3.heap.size,0,none⟩) 3 3] 70);have b1:=(am w3 70 #[.int .i64 (bo 0).k, .string (ah (bo 0).op), .string (ah (bo 0).nm), .string (ah (bo 0).tx), .int .i64 (bo 0).v, .slice A2 (bo 0).args.length c2, .int .i64 3, .string ⟨#[]⟩, .string ⟨#[97]⟩, .string ⟨#[]⟩, .int .i64 0, .slice none 0 0, .int .i64 (bo n).k, .string (ah (bo n).op), .string (ah (bo n).nm), .string (ah (bo n).tx), .int .i64 (bo n).v, .slice A3 (bo n).args.length c3]).alloc (.cells #[.int .i64 5, .string ⟨#[]⟩, .string ⟨#[114,101,97,100]⟩, .string ⟨#[]⟩, .int .i64 0, .slice (some ⟨w3.heap.size,0,none⟩) 3 3] 70);have b2:=am (w3.alloc (.cells #[.int .i64 (bo 0).k, .string (ah (bo 0).op), .string (ah (bo 0).nm), .string (ah (bo 0).tx), .int .i64 (bo 0).v, .slice A2 (bo 0).args.length c2, .int .i64 3, .string ⟨#[]⟩, .string ⟨#[97]⟩, .string ⟨#[]⟩, .int .i64 0, .slice none 0 0, .int .i64 (bo n).k, .string (ah (bo n).op), .string (ah (bo n).nm), .string (ah (bo n).tx), .int .i64 (bo n).v, .slice A3 (bo n).args.length c3] 70)) 70 #[.int .i64 5, .string ⟨#[]⟩, .string ⟨#[114,101,97,100]⟩, .string ⟨#[]⟩, .int .i64 0, .slice (some ⟨w3.heap.size,0,none⟩) 3 3];rw[World.size_alloc]at b2;exact⟨_,rfl,Hw3.out.trans hE,cu.three (x:=bo 0) (y:=pV) (z:=bo n) b1 trivial (Ra.out.keep (.of_ext hE) (fun _ _ _=>trivial)) (.nil _ _) (Rb.out.keep (.of_ext hE) (fun _ _ _=>trivial)),b2⟩
 rw[hW3];clear hW3 Hw3 Ra Rb;have B0:=G hbW3;have R0:=G hrW3;have X0:=G hxW3;clear hbW3 hrW3 hxW3
 go_upto_region 8 with(first
  |(go_at_call 29;refine(H1.out _).mono ?_;rintro e w4 ⟨hE,v,rfl,A4,c4,rfl,hr⟩;have Hw4:=G (X0.out.trans hE);have Rc0:=G hr;have B1a:=G (B0.out.ext hE);have R1a:=G (R0.out.keep (.of_ext hE) (Q:=fun _=>True) (fun _ _ _=>trivial));clear hE hr H1 X0 B0 R0)
  |(go_at_call 29;refine(Hm.out _).mono ?_;rintro e w5 ⟨hE,v,rfl,A5,c5,rfl,hr⟩;have Hw5:=G (Hw4.out.trans hE);have Rd:=G hr;have Rc:=G (Rc0.out.keep (.of_ext hE) (Q:=fun _=>True) (fun _ _ _=>trivial));have B1:=G (B1a.out.ext hE);have R1:=G (R1a.out.keep (.of_ext hE) (Q:=fun _=>True) (fun _ _ _=>trivial));clear hE hr Hm Hw4 Rc0 B1a R1a))
 obtain⟨W5,hW5,hxW5,hrW5,hbW5,hr3',hb3'⟩: ∃W,(w5.alloc (.cells #[.int .i64 (bo 1).k, .string (ah (bo 1).op), .string (ah (bo 1).nm), .string (ah (bo 1).tx), .int .i64 (bo 1).v, .slice A4 (bo 1).args.length c4, .int .i64 3, .string ⟨#[]⟩, .string ⟨#[97]⟩, .string ⟨#[]⟩, .int .i64 0, .slice none 0 0, .int .i64 (bo m).k, .string (ah (bo m).op), .string (ah (bo m).nm), .string (ah (bo m).tx), .int .i64 (bo m).v, .slice A5 (bo m).args.length c5] 70)).alloc (.cells #[.int .i64 5, .string ⟨#[]⟩, .string ⟨#[119,114,105,116,101]⟩, .string ⟨#[]⟩, .int .i64 0, .slice (some ⟨w5.heap.size,0,none⟩) 3 3] 70)=W/\au w W/\cu W (fun _=>True) (.slice (some ⟨w5.heap.size,0,none⟩) 3 3) (lZ m).args/\aQ W (w5.heap.size+1) 70 #[.int .i64 5, .string ⟨#[]⟩, .string ⟨#[119,114,105,116,101]⟩, .string ⟨#[]⟩, .int .i64 0, .slice (some ⟨w5.heap.size,0,none⟩) 3 3]/\cu W (fun _=>True) (.slice (some ⟨w3.heap.size,0,none⟩) 3 3) (mb n).args/\aQ W (w3.heap.size+1) 70 #[.int .i64 5, .string ⟨#[]⟩, .string ⟨#[114,101,97,100]⟩, .string ⟨#[]⟩, .int .i64 0, .slice (some ⟨w3.heap.size,0,none⟩) 3 3]:=by
  have hE:=(I w5 (.cells #[.int .i64 (bo 1).k, .string (ah (bo 1).op), .string (ah (bo 1).nm), .string (ah (bo 1).tx), .int .i64 (bo 1).v, .slice A4 (bo 1).args.length c4, .int .i64 3, .string ⟨#[]⟩, .string ⟨#[97]⟩, .string ⟨#[]⟩, .int .i64 0, .slice none 0 0, .int .i64 (bo m).k, .string (ah (bo m).op), .string (ah (bo m).nm), .string (ah (bo m).tx), .int .i64 (bo m).v, .slice A5 (bo m).args.length c5] 70)).alloc' (.cells #[.int .i64 5, .string ⟨#[]⟩, .string ⟨#[119,114,105,116,101]⟩, .string ⟨#[]⟩, .int .i64 0, .slice (some ⟨w5.heap.size,0,none⟩) 3 3] 70);have b1:=(am w5 70 #[.int .i64 (bo 1).k, .string (ah (bo 1).op), .string (ah (bo 1).nm), .string (ah (bo 1).tx), .int .i64 (bo 1).v, .slice A4 (bo 1).args.length c4, .int .i64 3, .string ⟨#[]⟩, .string ⟨#[97]⟩, .string ⟨#[]⟩, .int .i64 0, .slice none 0 0, .int .i64 (bo m).k, .string (ah (bo m).op), .string (ah (bo m).nm), .string (ah (bo m).tx), .int .i64 (bo m).v, .slice A5 (bo m).args.length c5]).alloc (.cells #[.int .i64 5, .string ⟨#[]⟩, .string ⟨#[119,114,105,116,101]⟩, .string ⟨#[]⟩, .int .i64 0, .slice (some ⟨w5.heap.size,0,none⟩) 3 3] 70);have b2:=am (w5.alloc (.cells #[.int .i64 (bo 1).k, .string (ah (bo 1).op), .string (ah (bo 1).nm), .string (ah (bo 1).tx), .int .i64 (bo 1).v, .slice A4 (bo 1).args.length c4, .int .i64 3, .string ⟨#[]⟩, .string ⟨#[97]⟩, .string ⟨#[]⟩, .int .i64 0, .slice none 0 0, .int .i64 (bo m).k, .string (ah (bo m).op), .string (ah (bo m).nm), .string (ah (bo m).tx), .int .i64 (bo m).v, .slice A5 (bo m).args.length c5] 70)) 70 #[.int .i64 5, .string ⟨#[]⟩, .string ⟨#[119,114,105,116,101]⟩, .string ⟨#[]⟩, .int .i64 0, .slice (some ⟨w5.heap.size,0,none⟩) 3 3];rw[World.size_alloc]at b2;exact⟨_,rfl,Hw5.out.trans hE,cu.three (x:=bo 1) (y:=pV) (z:=bo m) b1 trivial (Rc.out.keep (.of_ext hE) (fun _ _ _=>trivial)) (.nil _ _) (Rd.out.keep (.of_ext hE) (fun _ _ _=>trivial)),b2,(R1.out.keep (.of_ext hE) (Q:=fun _=>True) (fun _ _ _=>trivial)),B1.out.ext hE⟩
 rw[hW5];clear hW5 Hw5 Rc Rd B1 R1;have cX:=(hb3'.alloc (.cells #[.string ⟨#[97]⟩, .int .i64 100] 85)).cell;have cY:=((hbW5.alloc (.cells #[.string ⟨#[97]⟩, .int .i64 100] 85)).alloc (.cells #[.int .i64 5, .string ⟨#[]⟩, .string ⟨#[114,101,97,100]⟩, .string ⟨#[]⟩, .int .i64 0, .slice (some ⟨w3.heap.size,0,none⟩) 3 3] 70)).cell;have X5:=G hxW5;have RX:=G hr3';have RY:=G hrW5;clear hb3' hbW5 hxW5 hr3' hrW5
 go_upto_region 9 with fail
 obtain⟨W6,h6,x6,v6,f6,b6⟩: ∃W,((((((W5.alloc (.cells #[.string ⟨#[97]⟩, .int .i64 100] 85)).alloc (.cells #[.int .i64 5, .string ⟨#[]⟩, .string ⟨#[114,101,97,100]⟩, .string ⟨#[]⟩, .int .i64 0, .slice (some ⟨w3.heap.size,0,none⟩) 3 3] 70)).alloc (.cells #[.int .i64 5, .string ⟨#[]⟩, .string ⟨#[119,114,105,116,101]⟩, .string ⟨#[]⟩, .int .i64 0, .slice (some ⟨w5.heap.size,0,none⟩) 3 3] 70)).alloc (.cells #[.int .i64 7, .string ⟨#[]⟩, .slice (some ⟨W5.heap.size+1,0,none⟩) 1 1, .slice none 0 0, .slice none 0 0, .int .i64 7, .string ⟨#[]⟩, .slice (some ⟨W5.heap.size+1+1,0,none⟩) 1 1, .slice none 0 0, .slice none 0 0] 72)).alloc (.cells #[.string ⟨#[109,97,105,110]⟩, .slice none 0 0, .slice (some ⟨W5.heap.size+1+1+1,0,none⟩) 2 2] 59)).alloc (.cells #[.slice (some ⟨W5.heap.size,0,none⟩) 1 1, .slice (some ⟨W5.heap.size+1+1+1+1,0,none⟩) 1 1] 34))=W/\au w W/\li W (fun _=>True) (.slice (some ⟨W5.heap.size,0,none⟩) 1 1) (eN n m).vs/\lW W (fun _=>True) (.slice (some ⟨W5.heap.size+1+1+1+1,0,none⟩) 1 1) (eN n m).fs/\aQ W (W5.heap.size+1+1+1+1+1) 34 #[.slice (some ⟨W5.heap.size,0,none⟩) 1 1, .slice (some ⟨W5.heap.size+1+1+1+1,0,none⟩) 1 1]:=
  let h:=BA (n:=n) (m:=m) W5.heap.size rfl RX.out RY.out _ rfl
  ⟨_,rfl,X5.out.trans h.1,h.2.1,h.2.2.1,h.2.2.2⟩
 rw[h6];clear h6 cX cY X5 RX RY;have c6:=b6.cell;have HX6:=G x6;have HV6:=G v6;have HF6:=G f6;clear x6 v6 f6 b6
 go_upto_region 10 with(go_at_call 17;have hE0:=I W6 (.cells #[.int .i64 1, .slice A0 len c0] 80);refine(HR.out _ _ _ _ _ _ _ _ (HX6.out.trans hE0) (HV6.out.keep (.of_ext hE0) (Q:=fun _=>True) (fun _ hb _=>hb)) (HF6.out.keep (.of_ext hE0) (Q:=fun _=>True) (fun _ hb _=>hb)) (am _ _ _)).mono ?_;rintro e w7 ⟨hE,A7,c7,rfl,hs7⟩;have hE1:=I w7 (.cells #[.int .i64 k, .int .i64 cl, .int .i64 p0, .int .i64 0, .int .i64 0, .slice A7 dn c7, .int .i64 u] 42);have HX7:=G (HX6.out.trans (hE0.trans (hE.trans hE1)));have HB7:=G (am w7 42 #[.int .i64 k, .int .i64 cl, .int .i64 p0, .int .i64 0, .int .i64 0, .slice A7 dn c7, .int .i64 u]);have HS7:=G (hs7.ext hE1);clear hE hE0 hE1 hs7 HR HX6 HV6 HF6 c6)
 generalize w7.alloc (.cells #[.int .i64 k, .int .i64 cl, .int .i64 p0, .int .i64 0, .int .i64 0, .slice A7 dn c7, .int .i64 u] 42)=W7 at*;have c7':=HB7.out.cell;rcases HCS.out with⟨hbad,rfl⟩|⟨⟨h1,h2,h3,h4⟩,rfl,rfl,rfl,rfl,hdl⟩
 ·clear HCS HB7 HS7 HD;rcases hbad with hb|⟨hb1,hb⟩|⟨hb1,hb2,hb⟩|⟨hb1,hb2,hb3,hb⟩
  all_goals
   go_wp2_with fail;go_ret;exact⟨ti (by simp),HX7.out⟩
 have HB7L:=G HB7.out.lt;clear HCS;obtain⟨nn,rfl⟩: ∃k:Nat,n=(k:Int):=⟨n.toNat,by omega⟩
 obtain⟨mm,rfl⟩: ∃k:Nat,m=(k:Int):=⟨m.toNat,by omega⟩
 have hn100:nn<=100:=by omega
 have hm100:mm<=100:=by omega
 have HDL:=G hdl;obtain⟨kk,hkk⟩: ∃k,min nn len=k:=⟨_,rfl⟩
 have hmin:min (nn:Int) (len:Int)=(kk:Int):=by omega
 have hkc:kk<=c0:=by have:=HD.out.le;have:=HL.out;omega
 have hkl:kk<=len:=by omega
 have HKL:=G (show(data.take kk).length=kk by rw[be,HL.out];omega);have HSP:=G (show yr (List.replicate 100 0) 0 ((data.take kk).take 100)=kZ (nn:Int) data by rw[<-hkk];exact yS nn len data HL.out hn100);have HAL:=G (show(kZ (nn:Int) data).length=100 by unfold kZ;rw[Z,be,bg,dS];omega);have HDL:=G (show dl=(kZ (nn:Int) data).take mm by rw[hdl];rfl);have HSD:=G (HD.out.ext HX7.out|>.tk kk);have HS7L:=G HS7.out.bl;clear h1 h2 h3 h4 hn1 hn2 hm1 hm2 hdl hkk;generalize data.take kk=tk at*;generalize kZ (nn:Int) data=al at*
 go_upto_region 14 with(first
  |(refine py bt rfl _ _ rfl 100 (by omega) .i64 .i64 rfl rfl ?_;intro w8 hm8 he8 hs8;have HM8:=G hm8;have HX8:=G (HX7.out.trans he8);have HS8:=G (HS7.out.ext he8);have HB8:=G (HB7.out.ext he8);have HSD8:=G (HSD.out.ext he8);clear he8 hm8 c7' HB7 HS7 HSD)
  |(refine ln bt rfl _ _ rfl W7.heap.size 0 100 100 rfl (List.replicate 100 0) HM8.out A0 c0 tk (by rw[HKL.out];rfl) HSD8.out (by simp) ?_;intro w9 k9 hm9 hg9;rw[HSP.out]at hm9;have HM9:=G hm9;have HX9:=G (HX8.out.grown hg9 (fun k e=>by injection e with e;have:=HX7.out.size;omega));have HS9:=G (HS8.out.keepP (P:=fun b=>b≠W7.heap.size) (.of_grown hg9 (fun b hb e=>hb (O e))) (fun b o e hn=>by have:=HS7L.out b o e hn;omega));have HB9:=G (HB8.out.grown hg9 (fun e=>by injection e with e;have:=HB7L.out;omega));clear hm9 hg9 HM8 HS8 HB8 HSD8 HX8))
 have hcc:=HB9.out.cell;have hx: ∀W:World,(Op.equalIn 10000 39 (.agg #[.int .i64 1, .int .i64 0, .int .i64 0]) (.agg #[.int .i64 1, .int .i64 0, .int .i64 0])).run prog W= .ok true W:=fun W=>DC 1 0 0 1 0 0 W;have HLM:=G (show(al.take mm).length=mm by rw[be,HAL.out];omega);have HSA:=G (HM9.out.sl (n:=100) HAL.out.symm (by rw[HAL.out];simp[maxLen])|>.tk mm);have HEQ:=G (show(dl==al.take mm)=true by rw[HDL.out];simp)
 have HSM:=G (show ∀(W:World),au w9 W->Calls prog 30 #[.slice A7 dn c7, .slice (some ⟨W7.heap.size,0,none⟩) mm 100] W (fun e w'=>e= .returned (.bool true)/\w'=W)from fun W hE=>by
  have:=qB A7 (some ⟨W7.heap.size,0,none⟩) c7 100 dn mm dl (al.take mm) W HDN.out HLM.out (HS9.out.ext hE) (HSA.out.ext hE);rw[HEQ.out]at this
  exact this.mono fun e w' h=>⟨h.1,h.2.symm⟩)
 go_quiet ((go_at_call 30;first|exact Calls.quiet_of_same (HSM.out _ ((aO _).drewN _))|exact(HSM.out _ ((aO _).drewN _)).mono (fun e w' h=>⟨h.1,_,h.2⟩)))
 go_wp2_with fail;go_ret;exact⟨ti (by simp),HX9.out.drewN _⟩
end
end Go.Proofs.YtddomeddabfinaaGreatDoor
