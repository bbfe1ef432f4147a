/- Parts of the proof. -/
import Derived.Test.YtoedmpgicdekmaaGreatDoorCl24
import Derived.Test.YtoedmpgicdekmaaGreatDoorCl00
import Derived.Test.YtoedmpgicdekmaaGreatDoorCl29
import Derived.Test.YtoedmpgicdekmaaGreatDoorCl25
set_option maxRecDepth 100000
set_option maxHeartbeats 8000000
set_option linter.unusedVariables false
set_option linter.unusedSimpArgs false
set_option linter.unusedSectionVars false
namespace Go.Proofs.YtoedmpgicdekmaaGreatDoor
open Go.Proofs.Tryz
section
abbrev Nm:=List UInt8
structure CS where
 code:List dl
 tx:List UInt8
 calls:List (Nat×Nm)
 dats:List (Nat×Nm)
 slots:List (Nm×Int)
 frame:Int
def kj (n:Int):Int:=if n%65536<32768 then n%65536 else n%65536-65536
def Ia (n:Int):Int:=kj ((n-kj n)/65536)
def CS.add (s:CS) (x:dl):CS:={s with code:=s.code++[x]}
def CS.vl (s:CS) (op:Nat) (a v:Int):CS:=s.add ⟨op,a,0,0,v⟩
def CS.op (s:CS) (o:Nat) (a b n:Int):CS:=s.add ⟨o,a,b,n,0⟩
def CS.st (s:CS) (r n:Int):CS:=if Ia n=0 then s.vl 1 r (kj n)else(s.vl 1 r (kj n)).vl 2 r (Ia n)
def gL (x:dl) (v:Int):dl:={x with v:=v}
def CS.land (s:CS) (i:Nat):CS:={s with code:=s.code.modify i (gL · ((s.code.length:Int)-i-1))}
def CS.inv (s:CS) (r:Int):CS:=(s.vl 1 0 0).op 13 r r 0
def CS.chk (s:CS) (r m:Int):CS:=(((((s.st 0 (m+1)).op 12 0 r 0).vl 1 14 (-1)).op 12 14 14 r).op 9 0 0 14).op 7 0 0 0
def CS.text (s:CS) (r:Int) (t:List UInt8):CS:={(s.vl 1 r s.tx.length)with dats:=s.dats++[(s.code.length,[])],tx:=s.tx++t}
def CS.dat (s:CS) (r:Int) (nm:Nm):CS:={(s.vl 1 r 0)with dats:=s.dats++[(s.code.length,nm)]}
def gA (l:List (Nm×Int)) (nm:Nm):Option Int:=(l.find? (·.1==nm)).map (·.2)
def CS.ld (s:CS) (o:Nat) (r:Int) (nm:Nm):CS:=match gA s.slots nm with
 |some at_=>s.op o r 15 at_
 |none=>(s.dat 0 nm).op o r 0 0
def iq (l:List (Nm×Int)) (nm:Nm) (v:Int):List (Nm×Int):=if l.any (·.1==nm)=true then l.map (λx=>if x.1=nm then(nm,v)else x)else(nm,v)::l
def CS.decl (s:CS) (nm:Nm):CS:={s with slots:=iq s.slots nm (32+4*s.slots.length)}
def JN:List (Nm×Nat×Bool×Bool):=[([43],4,false,false),([45],5,false,false),([42],6,false,false),([47],7,false,false),([37],8,false,false),([61,61],13,false,false),([33,61],13,false,true),([60],12,false,false),([60,61],12,true,true),([62],12,true,false)]
def sJ (op:Nm):Nat×Bool×Bool:=((JN.find? (·.1==op)).map (·.2)).getD (12,false,true)
def rm (op:Nm) (r:Int) (s:CS):CS:=
 let s1:=if(sJ op).2.1=true then s.op (sJ op).1 r (r+1) r else s.op (sJ op).1 r r (r+1)
 if(sJ op).2.2=true then s1.inv r else s1
def pZ (o:Nat):Nat->Nat->CS->CS
 |0,i,s=>s
 |k+1,i,s=>pZ o k (i+1) (s.op o i 15 (4+4*((i:Int)-7)))
def uw (r:Nat):Nat->Nat->CS->CS
 |0,i,s=>s
 |k+1,i,s=>uw r k (i+1) (s.op 3 (1+i) (r+i) 0)
def CS.call (s:CS) (nm:Nm):CS:={(s.vl 20 14 0)with calls:=s.calls++[(s.code.length,nm)]}
def kY (nm:Nm) (n r:Nat) (s:CS):CS:=(pZ 14 (r-7) 7 ((uw r n 0 (pZ 15 (r-7) 7 s)).call nm)).op 3 r 1 0
def vC:List UInt8->List Ex->Nat
 | _,[]=>0
 |ls,_::l=>if ls.headD 0=105 then vC ls.tail l+1 else vC ls.tail l
def zG (c:Int) (n r i:Nat) (s:CS):CS:=if n<=i\/c=10/\0<i then s.vl 1 (2+i) 0 else s.op 3 (2+i) (r+i) 0
section
variable (sz:Nm->Int)
def CS.elem (s:CS) (r:Int) (nm:Nm):CS:=((s.chk r (sz nm-1)).dat 0 nm).op 4 0 0 r
def oP:List UInt8->List Ex->Int->CS->Int×CS
 | _,[],lim,s=>(lim,s)
 |ls,x::l,lim,s=>if ls.headD 0=105 then oP ls.tail l lim s else if x.k=2 then oP ls.tail l x.tx.length ((s.text 5 x.tx).st 6 x.tx.length)else oP ls.tail l (sz x.nm) (s.dat 5 x.nm)
def jB (c:Int) (ls:List UInt8) (a:List Ex) (r:Nat) (s:CS):CS:=
 let n:=vC ls a
 let p:=oP sz ls a 0 s
 let s1:=if c=9\/c=10 then p.2.chk ((r:Int)+n-1) (min p.1 128)else p.2
 let s2:=zG c n r 2 (zG c n r 1 (zG c n r 0 s1))
 let s3:=if c=9\/c=10 then s2.op 3 6 ((r:Int)+n-1) 0 else s2
 ((s3.vl 1 1 c).op 22 0 0 0).op 3 r 1 0
mutual
def fA:Ex->Nat->CS->CS
 | .mk k op nm tx v a,r,s=>
  if k=1 then s.st r v
  else if k=3 then s.ld 14 r nm
  else if k=4 then((io a r s).elem sz r nm).op 16 r 0 0
  else if k=5 then(match gh nm with
   |some (c,ls)=>jB sz c ls a r (qA ls a r s)
   |none=>kY nm a.length r (ti a r s))
  else if k=6 then(if op=[33]then(io a r s).inv r else((io a r s).vl 1 0 0).op 5 r 0 r)
  else if k=7 then
   (if op=[38,38]then((((tJ a r ((io a r s).vl 19 r 0)).inv r).inv r).land (io a r s).code.length)
   else if op=[124,124]then(((tJ a r (((io a r s).inv r).vl 19 r 0)).inv r).land ((io a r s).inv r).code.length).inv r
   else rm op r (tJ a (r+1) (io a r s)))
  else s
def io:List Ex->Nat->CS->CS
 | [],r,s=>s
 |x::_,r,s=>fA x r s
def tJ:List Ex->Nat->CS->CS
 | [],r,s=>s
 | _::l,r,s=>io l r s
def ti:List Ex->Nat->CS->CS
 | [],r,s=>s
 |x::l,r,s=>ti l (r+1) (fA x r s)
def qA:List UInt8->List Ex->Nat->CS->CS
 | _,[],r,s=>s
 |ls,x::l,r,s=>if ls.headD 0=105 then qA ls.tail l (r+1) (fA x r s)else qA ls.tail l r s
end
def CS.back (s:CS):CS:=((s.op 14 14 15 0).op 3 15 15 s.frame).op 21 14 0 0
mutual
def pP:St->CS->CS
 | .mk k nm ex b e,s=>
  if k=4 then
   (if e.isEmpty=true then(ee b ((io sz ex 7 s).vl 19 7 0)).land (io sz ex 7 s).code.length
   else(ee e (((ee b ((io sz ex 7 s).vl 19 7 0)).vl 18 0 0).land (io sz ex 7 s).code.length)).land (ee b ((io sz ex 7 s).vl 19 7 0)).code.length)
  else if k=5 then
   ((ee b ((io sz ex 7 s).vl 19 7 0)).vl 18 0 ((s.code.length:Int)-(ee b ((io sz ex 7 s).vl 19 7 0)).code.length-1)).land (io sz ex 7 s).code.length
  else if k=1 then((jk ex s).decl nm).ld 15 7 nm
  else if k=2 then(jk ex s).ld 15 7 nm
  else if k=3 then((((tJ sz ex 7 ((jk ex s).op 15 7 15 28)).op 3 8 7 0).op 14 7 15 28).elem sz 7 nm).op 17 8 0 0
  else if k=6 then((jk ex s).op 3 1 7 0).back
  else jk ex s
def ee:List St->CS->CS
 | [],s=>s
 |x::l,s=>ee l (pP x s)
def jk:List Ex->CS->CS
 | [],s=>s.vl 1 7 0
 |x::_,s=>fA sz x 7 s
end
def nP:List Nm->Nat->CS->CS
 | [],i,s=>s
 |p::l,i,s=>nP l (i+1) ((s.decl p).op 15 (1+i) 15 (32+4*i))
def CI:Nat->Nat->CS->CS
 |0,i,s=>s
 |k+1,i,s=>CI k (i+1) (s.op 15 0 15 (32+4*i))
def Ig (f:Fc) (s:CS):CS:=
 let s0:CS:={s with slots:=[],frame:=jx f}
 let s1:=(((((s0.op 3 15 15 (-(jx f:Int))).vl 1 0 3071).op 12 0 0 15).op 7 0 0 0).op 15 14 15 0)
 let s2:=CI (cN f.body) f.ps.length ((nP f.ps 0 s1).vl 1 0 0)
 ((ee sz f.body s2).vl 1 1 0).back
def nQ:List Fc->List (Nm×Int)×CS->List (Nm×Int)×CS
 | [],p=>p
 |f::l,p=>nQ l ((f.nm,(p.2.code.length:Int))::p.1,Ig sz f p.2)
end
def Jw:CS:=⟨[],[],[],[],[],0⟩
def ii:CS:=((((((Jw.call dv).vl 1 0 255).op 9 2 1 0).vl 1 1 0).vl 1 3 0).vl 1 4 0|>.op 22 0 0 0).vl 18 0 (-1)
def oo:List Vr->Int->List (Nm×Int)->Int×List (Nm×Int)
 | [],n,l=>(n,l)
 |v::r,n,l=>if v.sz=0 then oo r (n+4) ((v.nm,n)::l)else oo r n l
def sG:List Vr->Int->List (Nm×Int)->Int×List (Nm×Int)
 | [],n,l=>(n,l)
 |v::r,n,l=>if 0<v.sz then sG r (n+v.sz) ((v.nm,n)::l)else sG r n l
def qY:List Vr->List (Nm×Int)->List (Nm×Int)
 | [],l=>l
 |v::r,l=>if 0<v.sz then qY r ((v.nm,v.sz)::l)else qY r l
def aR (l:List (Nm×Int)) (nm:Nm):Int:=(gA l nm).getD 0
structure py where
 code:List UInt8
 data:List UInt8
 zero:Int
 entry:Int
def b8 (n:Int):UInt8:=UInt8.ofNat (n%256).toNat
def kk (x:dl):List UInt8:=if(iO x.op).2.2.2.2.1=true then[b8 x.op,b8 x.a,b8 (x.v/256),b8 x.v]else[b8 x.op,b8 x.a,b8 x.b,b8 x.c]
def lh (l:List UInt8):List UInt8:=l++List.replicate ((4-l.length%4)%4) 0
def lW (n:Int):Int:=(n+127)/128*128
def sZ (at_:List (Nm×Int)):List (Nat×Nm)->List dl->List dl
 | [],c=>c
 |p::l,c=>sZ at_ l (c.modify p.1 (gL · (aR at_ p.2-p.1-1)))
def addV (x:dl) (v:Int):dl:={x with v:=x.v+v}
def sY (data tx:Int) (pl:List (Nm×Int)):List (Nat×Nm)->List dl->List dl
 | [],c=>c
 |p::l,c=>sY data tx pl l (c.modify p.1 (addV · (if p.2=[]then data else data+(tx+aR pl p.2))))
def gt (p:Pg):CS×List (Nm×Int)×Int:=
 let i:=oo p.vs 0 []
 let a:=sG p.vs i.1 i.2
 let f:=nQ (aR (qY p.vs [])) p.fs ([],ii)
 (f.2,f.1,a.1)
end
section
def iF:Nat->Nat->List UInt8
 |0,u=>[UInt8.ofNat u]
 |k+1,u=>if 128<=u then UInt8.ofNat (128+u%128)::iF k (u/128)else[UInt8.ofNat u]
def Fu (n:Int):Nat:=if n<0 then(-(2*n)-1).toNat else(2*n).toNat
def fP (n:Int):List UInt8:=iF 10 (Fu n)
def j4:List UInt8->Bool
 |b0::b1::b2::b3::r=>(fH b0 b1 b2 b3).isSome&&j4 r
 | _=>true
def ph (f:py):Int:=lW (lW f.code.length+f.data.length+f.zero)
def gv (f:py):Bool:=
 decide (4<=f.code.length)&&(decide (f.code.length%4=0)&&(decide (0<=f.entry)&&(decide (f.entry<f.code.length)&&(decide (f.entry.tmod 4=0)&&(decide (0<=f.zero)&&(decide (f.zero<=3072)&&(decide (ph f<=3072)&&j4 f.code)))))))
def yx (f:py):List UInt8:=[82,84,78,49]++fP f.entry++fP f.zero++fP f.code.length++f.code++fP f.data.length++f.data
end
end Go.Proofs.YtoedmpgicdekmaaGreatDoor
