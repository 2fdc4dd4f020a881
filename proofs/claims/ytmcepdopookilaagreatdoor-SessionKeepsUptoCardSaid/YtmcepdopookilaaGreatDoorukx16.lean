import Derived.Test.YtmcepdopookilaaGreatDoorukx15
set_option maxHeartbeats 16000000
set_option maxRecDepth 8000
set_option linter.unusedVariables false
set_option linter.unusedSimpArgs false
set_option linter.defProp false
namespace Go.Proofs.YtmcepdopookilaaGreatDoor.Rp
open Go Go.Sl Go.RowKit Go.Proofs.Tryz
def Ev(i:IT):Pu prog 223 [.agg (co i).toArray] (fun _=>True) (.bool (decide (10<=i.kind)&&!i.peek)):=by
 obtain⟨q,a⟩:=o9 (decide (10<=i.kind));rw[<-a];refine b_ 11 func223 rfl rfl rfl ?_;intro F _;refine D1 ?_;refine m8 rfl rfl ?_;intro c;refine u6 ?_
 cases q
 all_goals (
  refine A5 ?_;refine f_ ((K_ rfl rfl).eq (qn ((qz).trans a.symm))) ?_;refine Y1 ?_)
 all_goals (refine B4 ?_;exact d_ rfl rfl [] qh (fun w b=>b.dropAll))
section
variable(b:Nat)(s:SE)(x:SL)(d:DD)(y:DL)(c:CM)(k:CL)(hv:s.a6y.a6x.length<=100000)(hvu:∀r∈s.a6y.a6x,r.1<18446744073709551616)(hc:rr c)(hn:s.num<18446744073709551615)(hl:y.rl.length<=100000)
include hv hvu hc hn hl
def Ew:Et 150 b s x d y c k (Eu s d c):=by
 have h9:=hc.set;have k0:=hc.a6B;obtain⟨e,he⟩:∃e,Y4 s.a6y c.set c.uid=e:=⟨_,rfl⟩;obtain⟨j,m,n,f,t,g,o,p,q⟩:=s;refine A0 47 func150 rfl rfl rfl ?_;rintro F R ⟨Y,X⟩;refine D1 ?_;refine m8 rfl rfl ?_;intro g3;refine A5 ?_;refine e_ (lL b ⟨j,m,n,f,t,g,o,p,q⟩ x d y c k e he hv qb qb) ?pre ?_;(case pre=>exact fun h hh ⟨bs,O⟩=>⟨A_.rd O ud,X.set.le hh⟩);rintro v A ⟨Q,U,D,rfl,hy,rfl⟩;refine al ?_
 cases e with
 |none=>
  obtain⟨a1,c1,rfl⟩:∃a c1,D=G1 y (iw c.tag,L0) a c1:=hy;refine M4 ?_;refine I4 (A:=l6 x.ra f.a6x x.rc::P3 b ⟨j,m,n,f,t,g,o,p,q⟩ x d (G1 y (iw c.tag,L0) a1 c1)) (v:=.tuple #[]) (l9.le_refl _) (nN (.inr rfl) Y) ?_;exact m6 rfl _ qh (fun w M=>D3 (A:=[_,_,_]) (J:=[_,_]) tk M)
 |some l=>
  obtain rfl:D=y:=hy;obtain⟨h2,h3⟩:=fk he;have k8:f.a6x.length<=100000:=hv;have h8:l.length<=f.a6x.length:=h3;have hu:gg l:=fun u hu=>by obtain⟨r,hr,rfl⟩:=h2 u hu;exact hvu r hr
  refine A5 ?_;refine C6 (Z:=[V4 Q l U,.blk g3 (.cells (lg c k).toArray 36)]) tk fun F1 S O=>?_;have V:n9 F1.heap Q (nV l):=by obtain⟨bs,O⟩:=O;exact A_.rd O ud
  have p3:F1.heap g3=some (.cells (lg c k).toArray 36 (0,0)):=L6 O;clear O;replace Y:=Mn.le S.heap Y;replace X:=Mn.le S.heap X;obtain⟨sn,h4⟩:=o9 (c.a6B.any (fun i=>decide (10<=i.kind)&&!i.peek));refine u6 ?_;refine r_ (l5 rfl (fun w M=>I8 M p3 rfl)) ?_;refine c_ rfl (X3 co S6 c.a6B k.ia k.ic 223 [] (fun _=>True) (fun i=>decide (10<=i.kind)&&!i.peek) (fun i _=>Ev i) qb) (fun h hh _=>⟨X.a6B.le hh,trivial⟩) rfl ?_;rw[<-h4];refine u6 ?_;refine x8 [(0,i8 b),(3,i8 g3),(4,.slice Q l.length U),(31,.bool (t||(c.a6C||!sn)))] (F9 b ⟨j,m,n,f,t,g,o,p,q⟩ x d D::x4 D.da D.rl D.dc::l6 x.ra f.a6x x.rc::R) ?_ ?_
  ·obtain⟨hs,h0⟩:=o9 (c.a6C);rw[<-h0]
   cases t<;>cases hs
   all_goals (
    refine wk 7 ?_;(first|(refine U4 rfl rfl rfl rfl rfl rfl rfl ?_)|(refine v_ ?_;refine r_ ((l5 rfl (fun w M=>I8 M p3 rfl)).eb h0) ?_));refine al ?_)
   all_goals exact p_ sub (fun w M=>(tk (C:=[_,_,_])).hp M)
  refine O_ ?_ ?_<;>intro h
  ·refine u6 ?_;refine r_ (dB rfl p3 ga) ?_;refine f_ (A2 (ps:=[(0,.const (.int .i64 3))]) (vs:=[(0,.int .i64 3)]) (cells:=(eN bE du).toArray) rfl i6) ?_;refine u6 ?_;refine e_ (dP b ⟨j,m,n,f,t,g,o,p,q⟩ x d D c k bE du l Q U hn) qw ?_;rintro v A ⟨rfl,rfl⟩;refine oK ?_;refine I4 (A:=l6 x.ra f.a6x x.rc::P3 b (H3 (⟨j,m,n,f,t,g,o,p,q⟩,d) c bE l).1 {x with cl:=k,ua:=Q,uc:=U} (H3 (⟨j,m,n,f,t,g,o,p,q⟩,d) c bE l).2 {D with ql:=du}) (v:=.tuple #[]) S (nO he (.look _ _) ⟨n9.nil _ _,n9.nil _ _⟩ V Y X) ?_;exact m6 rfl _ qh (fun w M=>D3 (A:=[_,_,_]) (J:=[]) tk M)
  refine u6 ?_;refine e_ (kF b ⟨j,m,n,f,t,g,o,p,q⟩ x d D 7) qw ?_;rintro v A ⟨rfl,rfl⟩;refine i7 rfl ?_;intro g7;refine yu ?_;refine D2 (C:=fun w:Bs=>[B w]) xl rfl ?_;intro a39 _;refine P1 ?_;refine C6 (Z:=[.own (.slice a39 1 1) 9 1 [B xl]]) tk fun F2 z ⟨bs,O⟩=>?_;have h1:n9 F2.heap a39 (fV [xl]):=A_.rd O ud;have h5:=z.heap _ _ p3;refine u6 ?_;refine r_ (dB rfl h5 ga) ?_;refine A5 ?_;refine B_ (iX b ⟨j,m,n,f,t,g,o,p,q⟩ x d D c k {aA (⟨j,m,n,f,t,g,o,p,q⟩,d) 7 with a6J:=[xl],how:=1} ⟨none,0,a39,1⟩ l Q U hv qb hu hn) ⟨⟨n9.nil _ _,h1⟩,V.le z.heap⟩ ?_;rintro v A F3 T ⟨rfl,r',z',h6,h7,rfl⟩;refine x6 ?_;refine I4 (A:=l6 x.ra f.a6x x.rc::P3 b (H3 (⟨j,m,n,f,t,g,o,p,q⟩,d) c r' l).1 {x with cl:=k,ua:=Q,uc:=U} (H3 (⟨j,m,n,f,t,g,o,p,q⟩,d) c r' l).2 {D with ql:=z'}) (v:=.tuple #[]) ((S.trans z).trans T) (nO he (rD.chg ⟨.inr (.inl rfl),.inr rfl,by simp[aA],.inr (.inr rfl),.inl rfl⟩ h6) h7 (V.le (z.trans T).heap) (Mn.le (z.trans T).heap Y) (Mn.le (z.trans T).heap X)) ?_;exact m6 rfl _ qh (fun w M=>D3 (A:=[_,_,_]) (J:=[_]) tk M)
def Ex:Et 151 b s x d y c k (Eu s d c):=by
 have h5:=hc.set;have h6:=hc.a6J;obtain⟨e,U⟩:∃e,Y4 s.a6y c.set c.uid=e:=⟨_,rfl⟩;refine A0 38 func151 rfl rfl rfl ?_;rintro F R ⟨q,t⟩;refine D1 ?_;refine m8 rfl rfl ?_;intro S;refine x6 ?_;refine n8 (ι:=DL) (fun f=>s.ro=true/\(∃a j,f=G1 y (Fs c.tag,L0) a j)\/s.ro=false/\f=y) (fun _=>[(0,i8 b),(3,i8 S),(9,.bool s.ro)]) (fun f=>F9 b s x d f::x4 f.da f.rl f.dc::.blk S (.cells (lg c k).toArray 36)::l6 x.ra s.a6y.a6x x.rc::R) ?_ ?_
 ·refine A5 ?_;refine e_ (sr b s x d y c k qb) qw ?_;rintro v A ⟨rfl,hA⟩;refine x6 ?_;rcases hA with⟨z,a,j,rfl⟩|⟨z,rfl⟩
  ·exact g_ (G1 y (Fs c.tag,L0) a j) (.inl ⟨z,a,j,rfl⟩) i_
  ·exact g_ y (.inr ⟨z,rfl⟩) i_
 rintro f C;refine O_ ?_ ?_<;>intro h
 ·obtain⟨a,j,rfl⟩:∃a j,f=G1 y (Fs c.tag,L0) a j:=by rcases C with⟨_,m⟩|⟨m,_⟩;exact m;(rw[h] at m;cases m)
  refine oK ?_;refine I4 (A:=l6 x.ra s.a6y.a6x x.rc::P3 b s x d (G1 y (Fs c.tag,L0) a j)) (v:=.tuple #[]) (l9.le_refl _) (nN (.inl rfl) q) ?_;exact m6 rfl _ qh (fun w g=>D3 (A:=[_,_,_]) (J:=[_]) tk g)
 obtain rfl:f=y:=by rcases C with⟨m,_⟩|⟨_,m⟩;(rw[h] at m;cases m);exact m
 refine A5 ?_;refine e_ (lL b s x d f c k e U hv qb qb) ?pre ?_;(case pre=>exact fun h V ⟨bs,n⟩=>⟨A_.rd n ud,t.set.le V⟩);rintro v A ⟨D,T,M,rfl,hy,rfl⟩;refine al ?_
 cases e with
 |none=>
  obtain⟨a1,j,rfl⟩:∃a j,M=G1 f (iw c.tag,L0) a j:=hy;refine M4 ?_;refine I4 (A:=l6 x.ra s.a6y.a6x x.rc::P3 b s x d (G1 f (iw c.tag,L0) a1 j)) (v:=.tuple #[]) (l9.le_refl _) (nN (.inr rfl) q) ?_;exact m6 rfl _ qh (fun w g=>D3 (A:=[_,_,_]) (J:=[_,_]) tk g)
 |some l=>
  obtain rfl:M=f:=hy;obtain⟨X,h7⟩:=fk U;have hu:gg l:=fun u hu=>by obtain⟨r,z,rfl⟩:=X u hu;exact hvu r z
  refine A5 ?_;refine C6 (Z:=[V4 D l T,.blk S (.cells (lg c k).toArray 36)]) tk fun F1 p n=>?_;have O:n9 F1.heap D (nV l):=by obtain⟨bs,n⟩:=n;exact A_.rd n ud
  have Q:F1.heap S=some (.cells (lg c k).toArray 36 (0,0)):=L6 n;clear n;replace q:=Mn.le p.heap q;replace t:=Mn.le p.heap t;refine u6 ?_;refine e_ (kF b s x d M 7) qw ?_;rintro v A ⟨rfl,rfl⟩;refine i7 rfl ?_;intro g6;refine u6 ?_;refine D8 [1,4,6,8] [2,10,12,14,16] [] 17 ?_;refine wd [0] ?_;refine A9 1 rfl (l5 rfl (fun w g=>I8 g Q rfl)) G3 rfl rfl rfl i6 ?_;refine wd [3] ?_;refine A9 4 rfl (l5 rfl (fun w g=>I8 g Q rfl)) G3 rfl rfl rfl i6 ?_;refine wd [5] ?_;refine A9 6 rfl (l5 rfl (fun w g=>I8 g Q rfl)) G3 rfl rfl rfl i6 ?_;refine wd [7] ?_;refine A9 8 rfl (l5 rfl (fun w g=>I8 g Q rfl)) G3 rfl rfl rfl i6 ?_;refine h_ 2 rfl i6 ?_;refine e_ (ab c.a6J k.fa k.fc qb) (fun h V _=>t.a6J.le V) ?_;rintro v A ⟨Y,fc,rfl,rfl⟩;refine fy [9,10,11,12,13,14,15,16] ?_;refine C6 (Z:=[B0 Y c.a6J fc]) tk fun F2 i ⟨bs,n⟩=>?_;have h0:n9 F2.heap Y (fV c.a6J):=A_.rd n ud;have h2:=i.heap _ _ Q;refine u6 ?_;refine r_ (dB rfl h2 ga) ?_;refine A5 ?_;refine B_ (iX b s x d M c k {aA (s,d) 7 with a6J:=c.a6J,how:=c.how,hasS:=c.a6C,a6D:=c.a6D} ⟨none,0,Y,fc⟩ l D T hv qb hu hn) ⟨⟨n9.nil _ _,h0⟩,O.le i.heap⟩ ?_;rintro v A F3 o ⟨rfl,r',z',h3,h4,rfl⟩;refine x6 ?_;refine I4 (A:=l6 x.ra s.a6y.a6x x.rc::P3 b (H3 (s,d) c r' l).1 {x with cl:=k,ua:=D,uc:=T} (H3 (s,d) c r' l).2 {M with ql:=z'}) (v:=.tuple #[]) ((p.trans i).trans o) (nO U (rD.chg ⟨.inr (.inl rfl),.inr rfl,by simp[aA],.inr (.inl rfl),.inl rfl⟩ h3) h4 (O.le (i.trans o).heap) (Mn.le (i.trans o).heap q) (Mn.le (i.trans o).heap t)) ?_;exact m6 rfl _ qh (fun w g=>D3 (A:=[_,_,_]) (J:=[_]) tk g)
end
end Go.Proofs.YtmcepdopookilaaGreatDoor.Rp
namespace Go.Proofs.YtmcepdopookilaaGreatDoor.Dg
open Go Go.Sl Go.Proofs.Tryz
abbrev W:=BitVec 32
abbrev bP(p:W):Value:=.int .u32 (p.toNat:Nat)
def ij(x:W)(c:Nat):W:=x>>>c|||x<<<(32-c)
def s0(x:W):W:=ij x 7^^^ij x 18^^^x>>>3
def s1(x:W):W:=ij x 17^^^ij x 19^^^x>>>10
def S0(x:W):W:=ij x 2^^^ij x 13^^^ij x 22
def S1(x:W):W:=ij x 6^^^ij x 11^^^ij x 25
def wb(l:List UInt8)(i:Nat):W:=BitVec.ofNat 32 (l.getD i 0).toNat
def QD(l:List UInt8)(t:Nat):W:=wb l (4*t)<<<24|||wb l (4*t+1)<<<16|||wb l (4*t+2)<<<8|||wb l (4*t+3)
def S3(l:List UInt8):Nat->List W
 |0=>[]
 |n+1=>S3 l n++[if n<16 then QD l n else s1 ((S3 l n).getD (n-2) 0)+(S3 l n).getD (n-7) 0+s0 ((S3 l n).getD (n-15) 0)+(S3 l n).getD (n-16) 0]
def V8(l:List UInt8):∀n,(S3 l n).length=n
 |0=>rfl
 |n+1=>by simp[S3,V8 l n]
def ON:List W:=[
 0x428a2f98#32,0x71374491#32,0xb5c0fbcf#32,0xe9b5dba5#32,0x3956c25b#32,0x59f111f1#32,0x923f82a4#32,0xab1c5ed5#32,
 0xd807aa98#32,0x12835b01#32,0x243185be#32,0x550c7dc3#32,0x72be5d74#32,0x80deb1fe#32,0x9bdc06a7#32,0xc19bf174#32,
 0xe49b69c1#32,0xefbe4786#32,0x0fc19dc6#32,0x240ca1cc#32,0x2de92c6f#32,0x4a7484aa#32,0x5cb0a9dc#32,0x76f988da#32,
 0x983e5152#32,0xa831c66d#32,0xb00327c8#32,0xbf597fc7#32,0xc6e00bf3#32,0xd5a79147#32,0x06ca6351#32,0x14292967#32,
 0x27b70a85#32,0x2e1b2138#32,0x4d2c6dfc#32,0x53380d13#32,0x650a7354#32,0x766a0abb#32,0x81c2c92e#32,0x92722c85#32,
 0xa2bfe8a1#32,0xa81a664b#32,0xc24b8b70#32,0xc76c51a3#32,0xd192e819#32,0xd6990624#32,0xf40e3585#32,0x106aa070#32,
 0x19a4c116#32,0x1e376c08#32,0x2748774c#32,0x34b0bcb5#32,0x391c0cb3#32,0x4ed8aa4a#32,0x5b9cca4f#32,0x682e6ff3#32,
 0x748f82ee#32,0x78a5636f#32,0x84c87814#32,0x8cc70208#32,0x90befffa#32,0xa4506ceb#32,0xbef9a3f7#32,0xc67178f2#32]
def kk(t:Nat):W:=ON.getD t 0
def t1(S:Nat->W)(k w:W):W:=S 7+S1 (S 4)+(S 4&&&S 5^^^ ~~~S 4&&&S 6)+k+w
def t2(S:Nat->W):W:=S0 (S 0)+(S 0&&&S 1^^^S 0&&&S 2^^^S 1&&&S 2)
def rnd(k w:W)(S:Nat->W):Nat->W
 |0=>t1 S k w+t2 S
 |1=>S 0
 |2=>S 1
 |3=>S 2
 |4=>S 3+t1 S k w
 |5=>S 4
 |6=>S 5
 |_=>S 6
def iY(l:List UInt8)(S:Nat->W):Nat->(Nat->W)
 |0=>S
 |n+1=>rnd (kk n) ((S3 l 64).getD n 0) (iY l S n)
def blk(S:Nat->W)(l:List UInt8):Nat->W:=fun i=>S i+iY l S 64 i
def Nb:Nat->W
 |0=>0x6a09e667#32
 |1=>0xbb67ae85#32
 |2=>0x3c6ef372#32
 |3=>0xa54ff53a#32
 |4=>0x510e527f#32
 |5=>0x9b05688c#32
 |6=>0x1f83d9ab#32
 |_=>0x5be0cd19#32
def Fv(S:Nat->W):zq:=[bP (S 0),bP (S 1),bP (S 2),bP (S 3),bP (S 4),bP (S 5),bP (S 6),bP (S 7)]
def Nc(m:List UInt8):Nat->(Nat->W)
 |0=>Nb
 |n+1=>blk (Nc m n) ((m.drop (64*n)).take 64)
def st(m:List UInt8):Nat->W:=Nc m (m.length/64)
def rest(m:List UInt8):List UInt8:=m.drop (64*(m.length/64))
def be8(n:Nat):List UInt8:=(List.range 8).map fun i=>UInt8.ofNat (n/2^(56-8*i))
def tail(n:Nat):List UInt8:=[128]++List.replicate ((119-n%64)%64) 0++be8 (n*8%2^64)
def zG(x:W):List UInt8:=[UInt8.ofNat (x.toNat/2^24),UInt8.ofNat (x.toNat/2^16),UInt8.ofNat (x.toNat/2^8),UInt8.ofNat x.toNat]
def cK(S:Nat->W):List UInt8:=(List.range 8).flatMap fun i=>zG (S i)
def sha(m:List UInt8):List UInt8:=cK (st (m++tail m.length))
def qo(m s:List UInt8):∀n,64*n<=m.length->Nc (m++s) n=Nc m n
 |0,_=>rfl
 |n+1,h=>by
  simp only[Nc];rw[qo m s n qb,K8 qb,Kv (by rw[jz];omega)]
section
variable{P:zj}{L:G9}{ty:zk}{pos:String}{af:Array Edge}{dst:Option Nat}{gd:Option (Nat×Bool)}{x y:zw}{t t':zk}{p q:W}
def sO(p q:W):bits .xor .u32 (p.toNat:Nat) (q.toNat:Nat)=((p^^^q).toNat:Nat):=by rw[u32_xor_nat _ _ p.isLt q.isLt,BitVec.toNat_xor]
def Ey(p q:W):bits .and .u32 (p.toNat:Nat) (q.toNat:Nat)=((p&&&q).toNat:Nat):=by rw[u32_and_nat _ _ p.isLt q.isLt,BitVec.toNat_and]
def It(p q:W):bits .or .u32 (p.toNat:Nat) (q.toNat:Nat)=((p|||q).toNat:Nat):=by rw[u32_or_nat _ _ p.isLt q.isLt,BitVec.toNat_or]
def iZ(hx:ev L x=some (bP p))(a:ev L y=some (bP q)):E5 P ⟨dst,.binOp .xor t x y t',ty,pos,af,gd⟩ L (bP (p^^^q)):=by
 have:=lh (P:=P) (dst:=dst) (gd:=gd) (ty:=ty) (pos:=pos) (af:=af) (t:=t) (t':=t') (op:=.xor) (.inr (.inr (.inl rfl))) hx a
 rwa [sO] at this
def qt(hx:ev L x=some (bP p))(a:ev L y=some (bP q)):E5 P ⟨dst,.binOp .and t x y t',ty,pos,af,gd⟩ L (bP (p&&&q)):=by
 have:=lh (P:=P) (dst:=dst) (gd:=gd) (ty:=ty) (pos:=pos) (af:=af) (t:=t) (t':=t') (op:=.and) (.inl rfl) hx a
 rwa [Ey] at this
def BU(hx:ev L x=some (bP p))(a:ev L y=some (bP q)):E5 P ⟨dst,.binOp .or t x y t',ty,pos,af,gd⟩ L (bP (p|||q)):=by
 have:=lh (P:=P) (dst:=dst) (gd:=gd) (ty:=ty) (pos:=pos) (af:=af) (t:=t) (t':=t') (op:=.or) (.inr (.inl rfl)) hx a
 rwa [It] at this
def cL(hx:ev L x=some (bP p))(a:ev L y=some (bP q)):E5 P ⟨dst,.binOp .add t x y t',ty,pos,af,gd⟩ L (bP (p+q)):=
 jA hx a (by rw[IntKind.wrap_u32,BitVec.toNat_add];omega)
def QE(hx:ev L x=some (bP p)):E5 P ⟨dst,.unOp .xor t x,ty,pos,af,gd⟩ L (bP (~~~p)):=by
 have:=On (P:=P) (dst:=dst) (gd:=gd) (ty:=ty) (pos:=pos) (af:=af) (t:=t) hx;have e:bits .xor .u32 (if IntKind.u32.signed then-1 else IntKind.u32.max) (p.toNat:Nat)=((~~~p).toNat:Nat):=by
  have a:(if IntKind.u32.signed then(-1:Int) else IntKind.u32.max)=(((BitVec.allOnes 32:W).toNat:Nat):Int):=by decide
  rw[a,sO,BitVec.allOnes_xor]
 rwa [e] at this
def uM{k:IntKind}{n:Int}(c:Nat)(hx:ev L x=some (bP p))(a:ev L y=some (.int k n))(b:n=(c:Nat))(hc:c<=32):E5 P ⟨dst,.binOp .shl t x y t',ty,pos,af,gd⟩ L (bP (p<<<c)):=by
 have:=Az (P:=P) (dst:=dst) (gd:=gd) (ty:=ty) (pos:=pos) (af:=af) (t:=t) (t':=t') hx a qb;have e:IntKind.u32.wrap ((p.toNat:Nat)*2^(min n.toNat IntKind.u32.bits))=((p<<<c).toNat:Nat):=by
  have d:min n.toNat IntKind.u32.bits=c:=by subst b;simp[IntKind.bits];omega
  rw[d,IntKind.wrap_u32,BitVec.toNat_shiftLeft,Nat.shiftLeft_eq];rw[Int.natCast_emod,Int.natCast_mul,Yx];rfl
 rwa [e] at this
def zH{k:IntKind}{n:Int}(c:Nat)(hx:ev L x=some (bP p))(a:ev L y=some (.int k n))(b:n=(c:Nat))(hc:c<=32):E5 P ⟨dst,.binOp .shr t x y t',ty,pos,af,gd⟩ L (bP (p>>>c)):=by
 have:=Om (P:=P) (dst:=dst) (gd:=gd) (ty:=ty) (pos:=pos) (af:=af) (t:=t) (t':=t') hx a qb;have e:((p.toNat:Nat):Int).fdiv (2^(min n.toNat IntKind.u32.bits))=((p>>>c).toNat:Nat):=by
  have d:min n.toNat IntKind.u32.bits=c:=by subst b;simp[IntKind.bits];omega
  rw[d,BitVec.toNat_ushiftRight,Nat.shiftRight_eq_div_pow,Jg _ (by exact Int.pow_nonneg qp)];rw[Int.natCast_ediv,Yx];rfl
 rwa [e] at this
def nP{a:TypeDesc}[hs:HU P t a][ht:HU P t' (.int .u32)](b:UInt8)(hx:ev L x=some (.int .u8 (b.toNat:Nat))):E5 P ⟨dst,.convert t t' x,ty,pos,af,gd⟩ L (bP (BitVec.ofNat 32 b.toNat)):=
 df hx (by rw[IntKind.wrap_u32,BitVec.toNat_ofNat];omega)
end
def Iu(p q:W):p|||q=q|||p:=BitVec.or_comm p q
open Go Go.Sl Go.Proofs.Tryz
def Nd(c:Nat)(hc:0<c/\c<32):Value.int .u64 (bits .and .u64 (IntKind.u64.wrap (-(c:Int))) 31)=.int .u64 ((32-c:Nat):Int):=by
 have a:IntKind.u64.wrap (-(c:Int))=((18446744073709551616-c:Nat):Int):=by rw[IntKind.wrap_u64];omega
 rw[a,show(31:Int)=((31:Nat):Int) from rfl,u64_and_nat _ _ qb qb,nat_mask5];congr 2;omega
def lM(x:W)(c:Nat)(hc:0<c/\c<32):Pu prog 367 [bP x,.int .i64 (-(c:Int))] (fun _=>True) (bP (ij x c)):=by
 refine b_ 17 func367 rfl rfl rfl ?_;intro F _;refine A5 ?_;refine f_ (eP rfl) ?_;refine f_ ((lh (.inl rfl) rfl rfl).eq (Nd c hc)) ?_;refine E8 ?_;refine f_ (uM (32-c) rfl rfl rfl qb) ?_;refine E8 ?_;refine f_ (zH c rfl rfl qb qb) ?_;refine f_ (BU rfl rfl) ?_;refine D0 ?_;exact d_ rfl rfl [] ⟨by rw[Iu];rfl,rfl⟩ (fun _ h=>h)
def mF(x:W)(a b c:Nat)(d e f:Int)(g:d=a)(i:e=b)(j:f=c)(ha:0<a/\a<32)(k:0<b/\b<32)(hc:0<c/\c<32):
  Pu prog 313 [bP x,.int .i64 d,.int .i64 e,.int .i64 f,.bool false] (fun _=>True) (bP (ij x a^^^ij x b^^^ij x c)):=by
 subst g i j;refine b_ 31 func313 rfl rfl rfl ?_;intro F _;refine P1 ?_;refine c_ rfl (lM x c hc) qw rfl ?_;refine al ?_;refine c_ rfl (lM x a ha) qw rfl ?_;refine E8 ?_;refine c_ rfl (lM x b k) qw rfl ?_;refine f_ (iZ rfl rfl) ?_;refine u6 ?_;refine f_ (iZ rfl rfl) ?_;refine D0 ?_;exact d_ rfl rfl [] qh (fun _ h=>h)
def kO(x:W)(a b c:Nat)(d e f:Int)(g:d=a)(i:e=b)(j:f=c)(ha:0<a/\a<32)(k:0<b/\b<32)(hc:0<c/\c<32):
  Pu prog 313 [bP x,.int .i64 d,.int .i64 e,.int .i64 f,.bool true] (fun _=>True) (bP (ij x a^^^ij x b^^^x>>>c)):=by
 subst g i j;refine b_ 31 func313 rfl rfl rfl ?_;intro F _;refine P1 ?_;refine c_ rfl (lM x c hc) qw rfl ?_;refine P1 ?_;refine f_ (zH c rfl rfl rfl qb) ?_;refine P1 ?_;refine c_ rfl (lM x a ha) qw rfl ?_;refine E8 ?_;refine c_ rfl (lM x b k) qw rfl ?_;refine f_ (iZ rfl rfl) ?_;refine u6 ?_;refine f_ (iZ rfl rfl) ?_;refine D0 ?_;exact d_ rfl rfl [] qh (fun _ h=>h)
def Nf:Pu prog 314 [] (fun _=>True) (.agg (ON.map bP).toArray):=by
 refine b_ 2 func314 rfl rfl rfl ?_;intro F _;refine u6 ?_;intro c;refine D1 ?_;refine f_ (db rfl (v:=.agg (ON.map bP).toArray) (fun w=>by kernel_rfl)) ?_;refine U7 rfl rfl uh (by rfl) (fun q a=>by simp only[Value.cells,Jm,jr] at a;obtain⟨p,_,rfl⟩:=a;rfl) (by rfl) ?_;refine oK ?_;exact AB rfl rfl (fun w b=>Y9 (n:=64) b ud) i6 [] ⟨by kernel_rfl,rfl⟩ (fun _ h=>h.drop)
def hc(S:Nat->W)(r:List UInt8)(n:Int):Array Value:=(Fv S++[B r,.int .i64 n]).toArray
def cM(b:Nat)(S:Nat->W)(r:List UInt8)(n:Int):As:=.blk b (.cells (hc S r n) 280)
def QF:Ct prog 168 [] (fun _=>True) [] (fun v A=>∃b,v=.pointer (some ⟨b,0,none⟩)/\A=[cM b Nb [] 0]):=by
 refine b_ 4 func168 rfl rfl rfl ?_;intro F _;refine yu ?_;refine f_ (db rfl (v:=.agg (Fv Nb).toArray) (fun w=>by kernel_rfl)) ?_;refine f_ (db rfl (v:=.agg (hc Nb [] 0)) (fun w=>by kernel_rfl)) ?_;refine u6 ?_;intro a;refine D0 ?_;exact d_ rfl rfl _ ⟨a,rfl,rfl⟩ (fun _ h=>h)
def cN(l:List UInt8)(n:Nat):Array Value:=((S3 l n).map bP++List.replicate (64-n) (bP 0#32)).toArray
def mG(l:List UInt8)(n:Nat)(h:n<=64):(cN l n).size=64:=by simp[cN,V8];omega
def Iv(l:List UInt8){n o i:Nat}(h:o=i)(b:i<n):(cN l n)[o]? =some (bP ((S3 l n).getD i 0)):=by
 subst h;have a:=V8 l n;simp only[cN,Kn];rw[j8 (by simp[a];omega)];simp[a,b]
def TH(l:List UInt8){n o:Nat}{v:Value}(h:o=n)(c:n<64)(hv:v=bP ((S3 l (n+1)).getD n 0)):eQ (cN l n) o [v]=cN l (n+1):=by
 subst h hv;have a:=V8 l o;have b:List.replicate (64-o) (bP 0#32)=bP 0#32::List.replicate (64-(o+1)) (bP 0#32):=by
  rw[show 64-o=(64-(o+1))+1 by omega,List.replicate_succ]
 have hg:(S3 l (o+1)).getD o 0=if o<16 then QD l o else s1 ((S3 l o).getD (o-2) 0)+(S3 l o).getD (o-7) 0+s0 ((S3 l o).getD (o-15) 0)+(S3 l o).getD (o-16) 0:=by
  simp[S3,a]
 rw[hg];apply Zv.1;simp only[eQ,cN,b];rw[Yy (by simp[a])];simp only[Qq];rw[Wz,Q7 (by simp[a])];simp[a,S3]
def Iw(l:List UInt8){n:Nat}(h:n<16):(S3 l (n+1)).getD n 0=QD l n:=by simp[S3,V8,h]
def Ix(l:List UInt8){n:Nat}(h:16<=n):(S3 l (n+1)).getD n 0=s1 ((S3 l n).getD (n-2) 0)+(S3 l n).getD (n-7) 0+s0 ((S3 l n).getD (n-15) 0)+(S3 l n).getD (n-16) 0:=by
 simp[S3,V8,show¬n<16 by omega]
def a2n{o i:Nat}(h:o=i)(a:i<64):(ON.map bP).toArray[o]? =some (bP (kk i)):=by
 subst h;have b:ON.length=64:=rfl;simp[kk,b,a]
def QG(l:List UInt8):(Value.cells (.agg (#[.int .u32 0,.int .u32 0,.int .u32 0,.int .u32 0,.int .u32 0,.int .u32 0,.int .u32 0,.int .u32 0,.int .u32 0,.int .u32 0,.int .u32 0,.int .u32 0,.int .u32 0,.int .u32 0,.int .u32 0,.int .u32 0,.int .u32 0,.int .u32 0,.int .u32 0,.int .u32 0,.int .u32 0,.int .u32 0,.int .u32 0,.int .u32 0,.int .u32 0,.int .u32 0,.int .u32 0,.int .u32 0,.int .u32 0,.int .u32 0,.int .u32 0,.int .u32 0,.int .u32 0,.int .u32 0,.int .u32 0,.int .u32 0,.int .u32 0,.int .u32 0,.int .u32 0,.int .u32 0,.int .u32 0,.int .u32 0,.int .u32 0,.int .u32 0,.int .u32 0,.int .u32 0,.int .u32 0,.int .u32 0,.int .u32 0,.int .u32 0,.int .u32 0,.int .u32 0,.int .u32 0,.int .u32 0,.int .u32 0,.int .u32 0,.int .u32 0,.int .u32 0,.int .u32 0,.int .u32 0,.int .u32 0,.int .u32 0,.int .u32 0,.int .u32 0])))=cN l 0:=by kernel_rfl
def upto(S X:Nat->W)(k:Nat):Nat->W:=fun i=>if i<k then S i+X i else S i
def a2o{S:Nat->W}{r:List UInt8}{n:Int}{o i:Nat}(h:o=i)(a:i<8):(hc S r n)[o]? =some (bP (S i)):=by
 subst h;rcases (show o=0\/o=1\/o=2\/o=3\/o=4\/o=5\/o=6\/o=7 by omega) with rfl|rfl|rfl|rfl|rfl|rfl|rfl|rfl<;>rfl
def TI{S:Nat->W}{o i:Nat}(h:o=i)(a:i<8):(Fv S).toArray[o]? =some (bP (S i)):=by
 subst h;rcases (show o=0\/o=1\/o=2\/o=3\/o=4\/o=5\/o=6\/o=7 by omega) with rfl|rfl|rfl|rfl|rfl|rfl|rfl|rfl<;>rfl
def QH(S X:Nat->W)(r:List UInt8)(n:Int){k o:Nat}(h:o=k)(a:k<8):eQ (hc (upto S X k) r n) o [bP (upto S X k k+X k)]=hc (upto S X (k+1)) r n:=by
 subst h;rcases (show o=0\/o=1\/o=2\/o=3\/o=4\/o=5\/o=6\/o=7 by omega) with rfl|rfl|rfl|rfl|rfl|rfl|rfl|rfl<;>rfl
def a2p:Value:=.agg (#[.int .u32 0,.int .u32 0,.int .u32 0,.int .u32 0,.int .u32 0,.int .u32 0,.int .u32 0,.int .u32 0,.int .u32 0,.int .u32 0,.int .u32 0,.int .u32 0,.int .u32 0,.int .u32 0,.int .u32 0,.int .u32 0,.int .u32 0,.int .u32 0,.int .u32 0,.int .u32 0,.int .u32 0,.int .u32 0,.int .u32 0,.int .u32 0,.int .u32 0,.int .u32 0,.int .u32 0,.int .u32 0,.int .u32 0,.int .u32 0,.int .u32 0,.int .u32 0,.int .u32 0,.int .u32 0,.int .u32 0,.int .u32 0,.int .u32 0,.int .u32 0,.int .u32 0,.int .u32 0,.int .u32 0,.int .u32 0,.int .u32 0,.int .u32 0,.int .u32 0,.int .u32 0,.int .u32 0,.int .u32 0,.int .u32 0,.int .u32 0,.int .u32 0,.int .u32 0,.int .u32 0,.int .u32 0,.int .u32 0,.int .u32 0,.int .u32 0,.int .u32 0,.int .u32 0,.int .u32 0,.int .u32 0,.int .u32 0,.int .u32 0,.int .u32 0])
def BV(S:Nat->W):∀q∈(Value.cells (.agg (Fv S).toArray)).toList,q.oneCell'=true:=fun q a=>by
 simp[Value.cells,Fv] at a;rcases a with rfl|rfl|rfl|rfl|rfl|rfl|rfl|rfl<;>rfl
def Iy(b:Nat)(S:Nat->W)(r:List UInt8)(n:Int)(l:List UInt8)(hl:l.length=64):
  Ct prog 240 [.pointer (some ⟨b,0,none⟩),B l] (fun _=>True) [cM b S r n] (fun v A=>v=.tuple #[]/\A=[cM b (blk S l) r n]):=by
 refine b_ 169 func240 rfl rfl rfl ?_;intro F _;refine u6 ?_;intro d;refine u6 ?_;refine o8 (ι:=Nat) (fun k=>k<=16) (fun k=>[(0,.pointer (some ⟨b,0,none⟩)),(1,B l),(4,.pointer (some ⟨d,0,none⟩)),(13,r7 k)]) (fun k=>[.blk d (.cells (cN l k) 344),cM b S r n]) (fun k=>16-k) 0 qb ?_ ?_ ?_
 ·exact sub
 ·intro w a;rw[<-QG];exact a
 ·intro k j;refine T2 ?_ ?_<;>intro h
  ·simp only[j7] at h;refine A5 ?_;refine gz ([],[],[]) 32 rfl ?_;refine wd [0,1,2,3] ?_;refine w_ 4 rfl ((B5 rfl rfl qb).eq (v':=.int .u8 ((l.getD (4*k) 0).toNat:Nat)) (by rw[show(4*(k:Int)).toNat=4*k by omega])) ?_;refine w_ 5 rfl (nP _ rfl) ?_;refine w_ 6 rfl (uM 24 rfl rfl rfl qb) ?_;refine wd [7,8,9,10] ?_;refine w_ 11 rfl ((B5 rfl rfl qb).eq (v':=.int .u8 ((l.getD (4*k+1) 0).toNat:Nat)) (by rw[show(4*(k:Int)+1).toNat=4*k+1 by omega])) ?_;refine w_ 12 rfl (nP _ rfl) ?_;refine w_ 13 rfl (uM 16 rfl rfl rfl qb) ?_;refine w_ 14 rfl (BU rfl rfl) ?_;refine wd [15,16,17,18] ?_;refine w_ 19 rfl ((B5 rfl rfl qb).eq (v':=.int .u8 ((l.getD (4*k+2) 0).toNat:Nat)) (by rw[show(4*(k:Int)+2).toNat=4*k+2 by omega])) ?_;refine w_ 20 rfl (nP _ rfl) ?_;refine w_ 21 rfl (uM 8 rfl rfl rfl qb) ?_;refine w_ 22 rfl (BU rfl rfl) ?_;refine wd [23,24,25,26] ?_;refine w_ 27 rfl ((B5 rfl rfl qb).eq (v':=.int .u8 ((l.getD (4*k+3) 0).toNat:Nat)) (by rw[show(4*(k:Int)+3).toNat=4*k+3 by omega])) ?_;refine w_ 28 rfl (nP _ rfl) ?_;refine w_ 29 rfl (BU rfl rfl) ?_;refine wd [30] ?_;refine h_ 31 rfl i6 ?_;refine L1 rfl rfl uh (by rfl) Pk (by rw[mG l k qb];omega) ?_;refine D7 [] ?_;refine A5 ?_;refine l8 (k+1) qb qb ?_ ?_
   ·exact sub
   ·intro w a;rw[<-TH l (o:=0+(k:Int).toNat*1) qb qb (by rw[Iw l qb])];exact a
  ·have f:k=16:=(by simp at h;omega);subst f;refine u6 ?_;refine o8 (ι:=Nat) (fun k=>16<=k/\k<=64) (fun k=>[(0,.pointer (some ⟨b,0,none⟩)),(4,.pointer (some ⟨d,0,none⟩)),(6,r7 k)]) (fun k=>[.blk d (.cells (cN l k) 344),cM b S r n]) (fun k=>64-k) 16 qb ?_ ?_ ?_
   ·exact sub
   ·intro w a;exact a
   ·intro k j;refine bQ ?_ ?_<;>intro h
    ·simp only[j7] at h;refine x6 ?_;refine vM [4,9,14,20] [5,15,23] 24 ?_;refine wd [0,1,2,3] ?_;refine bU 4 rfl ud (G0 rfl .del (Iv l (i:=k-2) qb qb)) rfl rfl rfl i6 ?_;refine wd [6,7,8] ?_;refine bU 9 rfl ud (G0 rfl .del (Iv l (i:=k-7) qb qb)) rfl rfl rfl i6 ?_;refine wd [11,12,13] ?_;refine bU 14 rfl ud (G0 rfl .del (Iv l (i:=k-15) qb qb)) rfl rfl rfl i6 ?_;refine wd [17,18,19] ?_;refine bU 20 rfl ud (G0 rfl .del (Iv l (i:=k-16) qb qb)) rfl rfl rfl i6 ?_;refine h_ 5 rfl i6 ?_;refine c_ rfl (kO _ 17 19 10 _ _ _ rfl rfl rfl qb qb qb) qw rfl ?_;refine V2 ?_;refine w_ 10 rfl (cL rfl rfl) ?_;refine h_ 15 rfl i6 ?_;refine c_ rfl (kO _ 7 18 3 _ _ _ rfl rfl rfl qb qb qb) qw rfl ?_;refine V2 ?_;refine w_ 16 rfl (cL rfl rfl) ?_;refine w_ 21 rfl (cL rfl rfl) ?_;refine wd [22] ?_;refine h_ 23 rfl i6 ?_;refine L1 rfl rfl uh (by rfl) Pk (by rw[mG l k qb];omega) ?_;refine D7 [] ?_;refine E8 ?_;refine l8 (k+1) qb qb ?_ ?_
     ·exact sub
     ·intro w a;rw[<-TH l (o:=0+(k:Int).toNat*1) qb qb (by rw[Ix l qb])];exact a
    ·have c:k=64:=(by simp at h;omega);subst c;refine D1 ?_;refine c_ rfl Nf qw rfl ?_;refine u6 ?_;intro s;refine U7 rfl rfl uh (by rfl) (fun q t=>by simp only[Value.cells,Jm,jr] at t;obtain⟨p,_,rfl⟩:=t;rfl) (by rfl) ?_;refine x6 ?_;refine al ?_;intro g;refine U7 rfl rfl uh (by rfl) (BV _) (by rfl) ?_;refine u6 ?_;refine o8 (ι:=Nat) (fun k=>k<=64) (fun k=>[(0,.pointer (some ⟨b,0,none⟩)),(4,.pointer (some ⟨d,0,none⟩)),(7,.pointer (some ⟨s,0,none⟩)),(8,.pointer (some ⟨g,0,none⟩)),(80,r7 k)])
      (fun k=>[.blk g (.cells (Fv (iY l S k)).toArray 278),.blk s (.cells (ON.map bP).toArray 344),.blk d (.cells (cN l 64) 344),cM b S r n]) (fun k=>64-k) 0 qb ?_ ?_ ?_
     ·exact sub
     ·intro w a;have e:eQ (Value.cells a2p) 0 (Value.cells (.agg (ON.map bP).toArray)).toList=(ON.map bP).toArray:=(by kernel_rfl);rw[<-e];exact a
     ·intro k j;refine T2 ?_ ?_<;>intro h
      ·simp only[j7] at h;refine A5 ?_;refine vM [1,3,7,9,12,15,21,25] [4] 28 ?_;refine wd [0,1,2,3,6,7,8,9] ?_;refine w_ 10 rfl (qt rfl rfl) ?_;refine wd [11,12] ?_;refine w_ 13 rfl (QE rfl) ?_;refine wd [14,15] ?_;refine w_ 16 rfl (qt rfl rfl) ?_;refine w_ 17 rfl (iZ rfl rfl) ?_;refine wd [19,20] ?_;refine bU 21 rfl ud (G0 rfl .del (a2n (i:=k) qb qb)) rfl rfl rfl i6 ?_;refine wd [23,24] ?_;refine bU 25 rfl ud (G0 rfl .del (Iv l (i:=k) qb qb)) rfl rfl rfl i6 ?_;refine h_ 4 rfl i6 ?_;refine c_ rfl (mF _ 6 11 25 _ _ _ rfl rfl rfl qb qb qb) qw rfl ?_;refine V2 ?_;refine w_ 5 rfl (cL rfl rfl) ?_;refine w_ 18 rfl (cL rfl rfl) ?_;refine w_ 22 rfl (cL rfl rfl) ?_;refine w_ 26 rfl (cL rfl rfl) ?_;refine wd [27] ?_;refine x6 ?_;refine vM [1,4,6,9,11,15,17] [2] 22 ?_;refine wd [0,1,3,4,5,6] ?_;refine w_ 7 rfl (qt rfl rfl) ?_;refine wd [8,9,10,11] ?_;refine w_ 12 rfl (qt rfl rfl) ?_;refine w_ 13 rfl (iZ rfl rfl) ?_;refine wd [14,15,16,17] ?_;refine w_ 18 rfl (qt rfl rfl) ?_;refine w_ 19 rfl (iZ rfl rfl) ?_;refine h_ 2 rfl i6 ?_;refine c_ rfl (mF _ 2 13 22 _ _ _ rfl rfl rfl qb qb qb) qw rfl ?_;refine V2 ?_;refine w_ 20 rfl (cL rfl rfl) ?_;refine wd [21] ?_;refine A5 ?_;refine f_ (cL rfl rfl) ?_;refine wk 9 ?_;refine f_ (cL rfl rfl) ?_;refine Y1 ?_;refine f_ (db rfl (v:=.agg (Fv (iY l S (k+1))).toArray) (fun w=>by kernel_rfl)) ?_;refine U7 rfl rfl uh (by rfl) (BV _) (by rfl) ?_;refine A5 ?_;refine l8 (k+1) qb qb ?_ ?_
       ·exact sub
       ·intro w a;exact a
      ·have c:k=64:=(by simp at h;omega);subst c;refine u6 ?_;refine o8 (ι:=Nat) (fun k=>k<=8) (fun k=>[(0,.pointer (some ⟨b,0,none⟩)),(8,.pointer (some ⟨g,0,none⟩)),(152,r7 k)])
        (fun k=>[cM b (upto S (iY l S 64) k) r n,.blk g (.cells (Fv (iY l S 64)).toArray 278)]) (fun k=>8-k) 0 qb ?_ ?_ ?_
       ·exact sub
       ·intro w a;exact((a.front (.there (.there (.there .del)))).upd_same (.there (.there .del))).upd_same (.there (.there .del))
       ·intro k j;refine T2 ?_ ?_<;>intro h
        ·simp only[j7] at h;refine A5 ?_;refine vM [5,8] [13] 14 ?_;refine wd [0,1,2,3,4] ?_;refine bU 5 rfl ud (G0 rfl .del (a2o (i:=k) qb qb)) rfl rfl rfl i6 ?_;refine wd [6,7] ?_;refine bU 8 rfl ud (G0 rfl .del (TI (i:=k) qb qb)) rfl rfl rfl i6 ?_;refine w_ 9 rfl (cL rfl rfl) ?_;refine wd [10,11,12] ?_;refine h_ 13 rfl i6 ?_;refine L1 rfl rfl uh (by rfl) Pk (by simp[hc,Fv];omega) ?_;refine D7 [] ?_;refine A5 ?_;refine l8 (k+1) qb qb ?_ ?_
         ·exact sub
         ·intro w a;unfold cM;rw[<-QH S (iY l S 64) r n (k:=k) (o:=0+0+(k:Int).toNat*1) qb qb];exact a
        ·have m:k=8:=(by simp at h;omega);subst m;refine x6 ?_;exact m6 rfl [cM b (blk S l) r n] qh (fun w a=>a.upd_same (.there .del))
def HS(b:Nat)(m:List UInt8):As:=cM b (st m) (rest m) (m.length:Nat)
def Ng(m:List UInt8):(rest m).length<=m.length:=by simp[rest]
def xn(m s:List UInt8):rest m++s=(m++s).drop (64*(m.length/64)):=by
 rw[rest,K8 qb]
def QI(S:Nat->W)(r:List UInt8)(n:Int):∀q∈(Value.cells (.agg (sl (hc S r n) 0 10).toArray)).toList,q.oneCell'=true:=fun q a=>by
 simp[Value.cells,sl,hc,Fv] at a;rcases a with rfl|rfl|rfl|rfl|rfl|rfl|rfl|rfl|rfl|rfl<;>rfl
def xp(b:Nat)(m s:List UInt8)(l:m.length+s.length<=9223372036854775807):
  Ct prog 169 [.pointer (some ⟨b,0,none⟩),B s] (fun _=>True) [HS b m] (fun v A=>v=.tuple #[]/\A=[HS b (m++s)]):=by
 have d:=Ng m;refine b_ 34 func169 rfl rfl rfl ?_;intro F _;refine wk 17 ?_;refine f_ ((H_ rfl rfl qb).eq (v':=B ((m++s).drop (64*(m.length/64)))) (by rw[xn])) ?_;refine u6 ?_;have f:(m++s).length=m.length+s.length:=by simp
 generalize hTT:m++s=T at*;refine o8 (ι:=Nat) (fun i=>m.length/64<=i/\i<=T.length/64) (fun i=>[(0,.pointer (some ⟨b,0,none⟩)),(1,B (T.drop (64*i)))]) (fun i=>[cM b (Nc T i) (rest m) (T.length:Nat)]) (fun i=>T.length/64-i) (m.length/64) qb ?_ ?_ ?_
 ·exact sub
 ·intro w a;have e:Nc T (m.length/64)=st m:=by rw[<-hTT,qo m s _ qb];rfl
  rw[e,f];have g:((m.length+s.length:Nat):Int)=(m.length:Int)+(s.length:Int):=by omega
  rw[g];exact a
 ·intro i n;have j:(T.drop (64*i)).length=T.length-64*i:=by simp
  refine eV ?_ ?_<;>intro h
  ·simp only[j7] at h;refine E8 ?_;refine y5 [] rfl (Iy b _ _ _ _ (by simp;omega)) i_ qw rfl ?_;rintro v A ⟨rfl,rfl⟩;refine u6 ?_;refine f_ ((I2 rfl rfl rfl qb).eq (v':=B (T.drop (64*(i+1)))) (by congr 2;rw[K6,jm (by simp;omega)];congr 1)) ?_;refine u6 ?_;refine l8 (i+1) qb qb ?_ ?_
   ·exact sub
   ·intro w a;have e:Nc T (i+1)=blk (Nc T i) (List.take (Int.toNat 64-Int.toNat 0) (List.drop (Int.toNat 0) (List.drop (64*i) T))):=rfl;rw[e];exact a
  ·have k:T.length-64*i<64:=(by simp at h;omega);have c:i=T.length/64:=(by omega);subst c;refine al ?_;exact m6 rfl [HS b T] qh i_
def Ez(n k:Nat):List UInt8:=(List.range k).map fun i=>UInt8.ofNat (n/2^(56-8*i))
def EA(n k:Nat):Ez n (k+1)=Ez n k++[UInt8.ofNat (n/2^(56-8*k))]:=by simp[Ez,List.range_succ]
def fw(n k:Nat):List UInt8:=[128]++List.replicate ((119-n%64)%64) 0++Ez (n*8%2^64) k
def zI(n k:Nat):fw n (k+1)=fw n k++[UInt8.ofNat (n*8%2^64/2^(56-8*k))]:=by simp[fw,EA]
def EB(n k:Nat):(fw n k).length<=65+k:=by simp[fw,Ez];omega
def BW(x:Nat):IntKind.u8.wrap (x:Int)=((UInt8.ofNat x).toNat:Nat):=by
 rw[IntKind.wrap_u8,UInt8.toNat_ofNat'];omega
def Iz(n k:Nat)(c:k<8):Value.int .u8 (IntKind.u8.wrap ((IntKind.u64.wrap ((n:Int)*8)).fdiv (2^(min (56-8*(k:Int)).toNat IntKind.u64.bits))))=.int .u8 ((UInt8.ofNat (n*8%2^64/2^(56-8*k))).toNat:Nat):=by
 rw[<-BW];have a:min (56-8*(k:Int)).toNat IntKind.u64.bits=56-8*k:=by simp[IntKind.bits];omega
 have b:IntKind.u64.wrap ((n:Int)*8)=((n*8%2^64:Nat):Int):=by rw[IntKind.wrap_u64];omega
 rw[a,b,Jg _ (by exact Int.pow_nonneg qp)];congr 3
def bf(S:Nat->W):(cK S).length=32:=by simp[cK,zG];rfl
def zJ(S:Nat->W){i k:Nat}(a:i<8)(b:k<4):(cK S).getD (4*i+k) 0=UInt8.ofNat ((S i).toNat/2^(24-8*k)):=by
 rcases (show i=0\/i=1\/i=2\/i=3\/i=4\/i=5\/i=6\/i=7 by omega) with rfl|rfl|rfl|rfl|rfl|rfl|rfl|rfl<;>
  rcases (show k=0\/k=1\/k=2\/k=3 by omega) with rfl|rfl|rfl|rfl<;>simp[cK,zG,List.range_succ]
def dR(S:Nat->W)(n:Nat):Array Value:=(B3 ((cK S).take n)++List.replicate (32-n) (Value.int .u8 0)).toArray
def xq(S:Nat->W)(n:Nat)(h:n<=32):(dR S n).size=32:=by simp[dR,B3,bf];omega
def a2q(S:Nat->W){n o:Nat}{v:Value}(h:o=n)(b:n<32)(hv:v=.int .u8 (((cK S).getD n 0).toNat:Nat)):eQ (dR S n) o [v]=dR S (n+1):=by
 subst h hv;have a:=bf S;have c:List.replicate (32-o) (Value.int .u8 0)=Value.int .u8 0::List.replicate (32-(o+1)) (Value.int .u8 0):=by
  rw[show 32-o=(32-(o+1))+1 by omega,List.replicate_succ]
 have d:(cK S).take (o+1)=(cK S).take o++[(cK S).getD o 0]:=by
  rw[jy qb];simp[a,b]
 apply Zv.1;simp only[eQ,dR,c];rw[Yy (by simp[B3,a];omega)];simp only[Qq];rw[Wz,Q7 (by simp[B3,a];omega)];have e:min o 32=o:=by omega
 simp[B3,a,d,e]
def IA(x:W){k:Nat}(a:k<4):Value.int .u8 (IntKind.u8.wrap ((x>>>(24-8*k)).toNat:Nat))=.int .u8 ((UInt8.ofNat (x.toNat/2^(24-8*k))).toNat:Nat):=by
 rw[BW,BitVec.toNat_ushiftRight,Nat.shiftRight_eq_div_pow]
def Nh(b:Nat)(m:List UInt8)(C:m.length<=9223372036854775000):
  Ct prog 170 [.pointer (some ⟨b,0,none⟩)] (fun _=>True) [HS b m] (fun v A=>v=B (sha m)/\A=[HS b m]):=by
 refine b_ 68 func170 rfl rfl rfl ?_;intro F _;refine E8 ?_;refine P1 ?_;intro d;refine U7 rfl rfl uh (by rfl) (QI _ _ _) (by rfl) ?_;refine x6 ?_;refine C5 (H':=[HS d m,HS b m]) i_ ?_;refine al ?_;refine om rfl rfl rfl qb (by show(1:Int)*_<=_;omega) rfl ?_;intro a5;rw[show(119-(m.length:Int)%64)%64=(((119-m.length%64)%64:Nat):Int) by omega];refine r_ (cv (l:=List.replicate ((119-m.length%64)%64) 0) rfl (by simp;omega) (fun w a=>by have r:=(a.ownN ud).2.2.1;simp only[Qy] at r;simp only[B3,List.map_replicate];exact r)) ?_;refine f_ ((H_ rfl rfl (by simp;omega)).eq (v':=B (fw m.length 0)) (by simp[fw,Ez])) ?_;refine A5 ?_;refine o8 (ι:=Nat) (fun k=>k<=8) (fun k=>[(0,.pointer (some ⟨b,0,none⟩)),(3,.pointer (some ⟨d,0,none⟩)),(4,B (fw m.length k)),(23,r7 k)]) (fun k=>[HS d m,HS b m]) (fun k=>8-k) 0 qb ?_ ?_ ?_
 ·exact sub
 ·intro w a;exact a.upd_same .del
 ·intro k x;have y:=EB m.length k;refine T2 ?_ ?_<;>intro h
  ·simp only[j7] at h;refine wk 8 ?_;refine f_ (CQ rfl rfl) ?_;refine P1 ?_;refine f_ ((eP rfl).eq (Iz m.length k qb)) ?_;refine y6 rfl rfl rfl rfl rfl rfl (xs:=B3 [UInt8.ofNat (m.length*8%2^64/2^(56-8*k))]) rfl rfl ?_;intro z s;refine r_ (cv (l:=[UInt8.ofNat (m.length*8%2^64/2^(56-8*k))]) rfl rfl (fun w a=>(a.ownN ud).2.2.1)) ?_;refine f_ ((H_ rfl rfl (by simp;omega)).eq (v':=B (fw m.length (k+1))) (by rw[zI])) ?_;refine E8 ?_;refine l8 (k+1) qb qb ?_ ?_
   ·exact sub
   ·intro w a;exact a.upd_same .del
  ·have g:k=8:=(by simp at h;omega);subst g;refine u6 ?_;refine y5 [HS b m] rfl (xp d m (fw m.length 8) qb) i_ qw rfl ?_;rintro v A ⟨rfl,rfl⟩;refine x6 ?_;have c:sha m=cK (st (m++fw m.length 8)):=rfl;generalize hT:m++fw m.length 8=T at*;refine u6 ?_;intro f;refine E8 ?_;refine o8 (ι:=Nat) (fun i=>i<=8) (fun i=>[(6,.pointer (some ⟨f,0,none⟩)),(45,.agg (Fv (st T)).toArray),(46,r7 i)]) (fun i=>[.blk f (.cells (dR (st T) (4*i)) 281),HS b m]) (fun i=>8-i) 0 qb ?_ ?_ ?_
   ·exact sub
   ·intro w a;have e:dR (st T) (4*0)=#[.int .u8 0,.int .u8 0,.int .u8 0,.int .u8 0,.int .u8 0,.int .u8 0,.int .u8 0,.int .u8 0,.int .u8 0,.int .u8 0,.int .u8 0,.int .u8 0,.int .u8 0,.int .u8 0,.int .u8 0,.int .u8 0,.int .u8 0,.int .u8 0,.int .u8 0,.int .u8 0,.int .u8 0,.int .u8 0,.int .u8 0,.int .u8 0,.int .u8 0,.int .u8 0,.int .u8 0,.int .u8 0,.int .u8 0,.int .u8 0,.int .u8 0,.int .u8 0]:=(by simp[dR,B3,List.replicate]);rw[e];exact a.upd_same (.there .del)
   ·intro i D;refine T2 ?_ ?_<;>intro h
    ·simp only[j7] at h;refine u6 ?_;refine f_ (eR i rfl rfl rfl qb (TI (i:=i) rfl qb)) ?_;refine E8 ?_;refine o8 (ι:=Nat) (fun k=>k<=4) (fun k=>[(6,.pointer (some ⟨f,0,none⟩)),(45,.agg (Fv (st T)).toArray),(46,r7 i),(7,r7 i),(8,bP (st T i)),(50,r7 k)]) (fun k=>[.blk f (.cells (dR (st T) (4*i+k)) 281),HS b m]) (fun k=>4-k) 0 qb ?_ ?_ ?_
     ·exact sub
     ·intro w a;exact a
     ·intro k x;refine T2 ?_ ?_<;>intro t
      ·simp only[j7] at t;refine wk 10 ?_;refine f_ (zH (24-8*k) rfl rfl qb qb) ?_;refine f_ ((eP rfl).eq (IA _ qb)) ?_;refine u6 ?_;refine L1 rfl rfl uh (by rfl) Pk (by rw[xq _ _ qb];omega) ?_;refine A5 ?_;refine l8 (k+1) qb qb ?_ ?_
       ·exact sub
       ·intro w a;rw[<-W9,<-a2q (st T) (n:=4*i+k) (o:=0+(4*(i:Int)+(k:Int)).toNat*1) qb qb (by rw[zJ (st T) qb qb])];exact a
      ·have p:k=4:=(by simp at t;omega);subst p;refine A5 ?_;refine l8 (i+1) qb qb ?_ ?_
       ·exact sub
       ·intro w a;exact a
    ·have q:i=8:=(by simp at h;omega);subst q;refine D1 ?_;refine f_ (vE rfl) ?_;refine r_ (cv (l:=sha m) rfl (by rw[c,bf]) (fun w a=>a.rdBlk ud _ (fun j u hu=>by rw[c] at hu;simpa[dR,bf,jm] using hu))) ?_;refine D0 ?_;exact d_ rfl rfl [HS b m] qh (fun w a=>a.upd_same .del)
def Sum_ct(s:List UInt8)(hs:s.length<=9223372036854775000):Pu prog 81 [B s] (fun _=>True) (B (sha s)):=by
 refine b_ 10 func81 rfl rfl rfl ?_;intro F _;refine yu ?_;refine y5 [] rfl QF i_ qw rfl ?_;rintro v A ⟨g,rfl,rfl⟩;refine u6 ?_;refine C5 (H':=[HS g []]) i_ ?_;refine A5 ?_;refine y5 [] rfl (xp g [] s (by simp;omega)) i_ qw rfl ?_;rintro v A ⟨rfl,rfl⟩;refine u6 ?_;refine y5 [] rfl (Nh g ([]++s) (by simpa using hs)) i_ qw rfl ?_;rintro v A ⟨rfl,rfl⟩;refine D0 ?_;exact d_ rfl rfl [] qh (fun w a=>a.dropAll)
end Go.Proofs.YtmcepdopookilaaGreatDoor.Dg
namespace Go.Proofs.YtmcepdopookilaaGreatDoor.Rp
open Go Go.Sl Go.RowKit Go.Proofs.Tryz
abbrev TJ(c:CM):RQ:={dq with op:=6,box:=c.box,a6J:=c.a6J,hash:=Dg.sha c.data,size:=c.data.length}
def TK(s:SE)(d:DD)(c:CM)(s':SE)(d':DD):Prop:=(s',d')=H3 (s,{d with store:=true,body:=c.data}) c (TJ c) []
def zK(b:Nat)(s:SE)(x:SL)(d:DD)(y:DL)(c:CM)(k:CL)(hc:rr c)(q:s.num<18446744073709551615):Et 149 b s x d y c k (TK s d c):=by
 have r:=hc.a6J;have t:=hc.data;refine A0 30 func149 rfl rfl rfl ?_;rintro F R ⟨e,j⟩;refine D1 ?_;refine m8 rfl rfl ?_;intro p;refine x6 ?_;refine C6 (Z:=[.blk p (.cells (lg c k).toArray 36)]) tk fun u f n=>?_;have l:u.heap p=some (.cells (lg c k).toArray 36 (0,0)):=L6 n;clear n;replace e:=Mn.le f.heap e;replace j:=Mn.le f.heap j;refine x6 ?_;refine D8 [3] [7,11] [] 12 ?_;refine wd [0,1,2] ?_;refine A9 3 rfl (l5 rfl (fun w a=>I8 a l rfl)) G3 rfl rfl rfl i6 ?_;refine wd [4,5,6,7,8,9,10,11] ?_;refine x6 ?_;refine D8 [1,3,5,8,11] [6,9,15] [] 16 ?_;refine wd [0] ?_;refine A9 1 rfl (dB rfl l ga) G3 rfl rfl rfl i6 ?_;refine wd [2] ?_;refine A9 3 rfl (l5 rfl (fun w a=>I8 a l rfl)) G3 rfl rfl rfl i6 ?_;refine wd [4] ?_;refine A9 5 rfl (l5 rfl (fun w a=>I8 a l rfl)) G3 rfl rfl rfl i6 ?_;refine wd [7] ?_;refine A9 8 rfl (l5 rfl (fun w a=>I8 a l rfl)) G3 rfl rfl rfl i6 ?_;refine wd [10] ?_;refine A9 11 rfl (l5 rfl (fun w a=>I8 a l rfl)) G3 rfl rfl rfl i6 ?_;refine wd [12] ?_;refine w_ 13 rfl ((A3 rfl qb).eq (v':=.int .u64 (c.data.length:Nat)) rfl) ?_;refine h_ 6 rfl i6 ?_;refine e_ (ab c.a6J k.fa k.fc qb) (fun h z _=>j.a6J.le z) ?_;rintro v A ⟨g,m,rfl,rfl⟩;refine V2 ?_;refine h_ 9 rfl i6 ?_;refine c_ rfl (Dg.Sum_ct c.data qb) qw rfl ?_;refine V2 ?_;refine w_ 14 rfl (A2 (ps:=[(0,.const (.int .i64 6)),(6,.tmp 17),(10,.tmp 20),(14,.tmp 23),(15,.tmp 27)]) (vs:=[(0,.int .i64 6),(6,B c.box),(10,.slice g c.a6J.length m),(14,B (Dg.sha c.data)),(15,.int .u64 (c.data.length:Nat))]) (cells:=(eN (TJ c) ⟨none,0,g,m⟩).toArray) rfl i6) ?_;refine h_ 15 rfl i6 ?_;refine e_ (dP b s x {d with store:=true,body:=c.data} y c k (TJ c) ⟨none,0,g,m⟩ [] none 0 q) qw ?_;rintro v A ⟨rfl,rfl⟩;refine D7 [] ?_;refine kL (Z:=[B0 g c.a6J m]) tk fun C i ⟨D,n⟩=>?_;have o:n9 C.heap g (fV c.a6J):=A_.rd n ud;replace e:=Mn.le i.heap e;replace j:=Mn.le i.heap j;refine I4 (A:=l6 x.ra s.a6y.a6x x.rc::P3 b (H3 (s,{d with store:=true,body:=c.data}) c (TJ c) []).1 {x with cl:=k,ua:=none,uc:=0} (H3 (s,{d with store:=true,body:=c.data}) c (TJ c) []).2 {y with ql:=⟨none,0,g,m⟩}) (v:=.tuple #[]) (f.trans i) ⟨rfl,_,_,{x with cl:=k,ua:=none,uc:=0},{y with ql:=⟨none,0,g,m⟩},rfl,rfl,.refl rfl,?_⟩ ?_
 ·exact⟨⟨n9.nil _ _,j⟩,⟨e.dd.a6I,e.dd.rep,⟨n9.nil _ _,o⟩,e.dd.want⟩⟩
 ·exact m6 rfl _ qh (fun w a=>D3 (A:=[_,_,_]) (J:=[]) tk a)
def lN(s:SE)(x:SL)(hs:PK s):Cm prog 68 [mq s x] (fun h=>n9 h x.ra (S_ s.a6y.a6x)/\P4 s x h) [] (fun h v A=>∃d,v=mq s d/\A=[l6 d.ra s.a6y.a6x d.rc]/\P4 s d h):=by
 have n:=hs.a6x;have o:=hs.a6A;refine A0 18 func68 rfl rfl rfl ?_;rintro F R ⟨p,a⟩;refine D1 ?_;refine m8 rfl rfl ?_;intro u;refine i7 rfl ?_;intro y;refine E8 ?_;refine e_ (fY (S_ s.a6y.a6x) x.ra s.a6y.a6x.length x.rc (cd _) (eY _) qb) (fun h e _=>p.le e) ?_;rintro v A ⟨j,k,rfl,rfl⟩;refine al ?_;refine e_ (wr (nV s.a6A) x.ua s.a6A.length x.uc (by rw[tL,Z0]) (iJ _) qb) (fun h e _=>a.a6A.le e) ?_;rintro v A ⟨f,l,rfl,rfl⟩;refine A5 ?_;refine C6 (Z:=[V4 f s.a6A l]) tk fun q b ⟨z,m⟩=>?_;have g:n9 q.heap f (nV s.a6A):=A_.rd m ud;clear m;refine A5 ?_;refine B_ (mY s.cmd x.cl hs.cmd) (Mn.le b.heap a.cmd) ?_;rintro v A C c ⟨rfl,r,rfl,i⟩;refine KH ?_;refine I4 (A:=[l6 j s.a6y.a6x k]) (v:=mq s ⟨j,k,f,l,r⟩) (b.trans c) ⟨_,rfl,rfl,⟨g.le c.heap,i⟩⟩ ?_;exact H7 rfl rfl ud rfl _ qh (fun w t=>D3 (A:=[_]) (J:=[_,_]) tk t)
def EC(c:CM)(x:CL):Pu prog 73 [vo c x] (fun _=>True) (B (tT c)):=by
 obtain⟨q,a⟩:=o9 (decide (c.tag=[]));refine b_ 8 func73 rfl rfl rfl ?_;intro F _;refine D1 ?_;refine m8 rfl rfl ?_;intro e;refine E8 ?_;refine f_ ((C9 rfl rfl).eq (v':=.bool q) (qn a.symm)) ?_;refine x6 ?_
 cases q
 ·have b:c.tag≠[]:=zu a.symm;refine cn ?_;exact d_ rfl rfl [] ⟨by unfold tT;rw[zb b],rfl⟩ (fun w d=>d.drop)
 ·have b:c.tag=[]:=zy a.symm;refine D0 ?_;exact d_ rfl rfl [] ⟨by unfold tT;rw[zr b],rfl⟩ (fun w d=>d.drop)
def BY(b:Nat)(s:SE)(x:SL)(d:DD)(y:DL):Ct prog 77 [i8 b] (fun _=>True) (P3 b s x d y) (fun v A=>v=vo s.cmd x.cl/\A=P3 b (X6 s) {x with cl:=I0,ua:=none,uc:=0} d y):=by
 refine b_ 23 func77 rfl rfl rfl ?_;intro F _;refine D1 ?_;refine i7 rfl ?_;intro c;refine al ?_;refine i7 rfl ?_;intro e;refine P1 ?_;refine f_ (A2 (ps:=[]) (vs:=[]) (cells:=(lg iK I0).toArray) rfl i6) ?_;refine wk 14 ?_;refine B4 ?_;exact H7 rfl rfl ud rfl _ qh (fun w a=>a.drop.drop)
def BZ{P:zj}{N:Nat}{c:Code}{K R:A1}{L:G9}{F:l9}{H:List As}{Q:Exit->Act->World->Prop}{a:Act}{w:World}(h:G P N c K [] R L F H)(hf:H5 N L a)(b:Hp F w H)(d:∀a w,K a w->Q .normal a w)(f:∀a w,R a w->Q .ret a w):c.wp P Q a w:=by
 unfold G at h;refine Code.wp_mono ?_ (h a w hf b);intro e g i q
 cases e with
 |normal=>exact d _ _ q
 |ret=>exact f _ _ q
 |exit id=>simp[MQ,List.lookup] at q
 |goto l=>exact q.elim
 |panic ch=>exact(gy q).elim
 |outgrown=>exact q.elim
def uN{P:zj}{L:G9}{dst:Option Tmp}{t t':zk}{x y:zw}{ty:zk}{pos:String}{af:Array Edge}{gd:Option (Nat×Bool)}{a:Array (String×zk)}{u:zk}{v:Value}[hu:HU P t (.interface a)](hx:ev L x=some (.iface u v))(b:ev L y=some .nilIface):E5 P ⟨dst,.binOp .neq t x y t',ty,pos,af,gd⟩ L (.bool true):=by
 have c:P.underlying t=some (.interface (P.methodsAt t)):=by unfold Program.methodsAt;rw[hu.h]
 exact L8 hx b (fun w=>by
  rw[eqGuard_at_iface];exact run_neq_held_nil w t u v c)
def zL{P:zj}{dst:Option Nat}{t t':zk}{x:zw}{c:Value}{ty:zk}{pos:String}{af:Array Edge}{gd:Option (Nat×Bool)}{L:G9}{a:Array (String×zk)}[hu:HU P t (.interface a)](hx:ev L x=some .nilIface)(b:ev L (.const c)=some .nilIface):E5 P ⟨dst,.binOp .neq t x (.const c) t',ty,pos,af,gd⟩ L (.bool false):=by
 have d:P.underlying t=some (.interface (P.methodsAt t)):=by unfold Program.methodsAt;rw[hu.h]
 exact L8 hx b (fun w=>by
  rw[eqGuard_nil_constR];exact run_neq_nil_nil w t d)
def QJ(d f g3:Nat)(F:l9)(H:List As)(w:World)(c:Hp F w H):CallsD prog 136 #[i8 d,i8 f,i8 g3] .returning w fun e g w'=>e=.returned (.tuple #[])/\g=.returning/\Hp F w' H:=by
 refine callsD_of_wpS func136 rfl fun h i hu=>?_;apply wpS_seq;apply wpS_region;simp[wpOpsS,go_sem,recoverD,hu,Exit.thenS];refine wpS_of_wp ?_;refine BZ (N:=18) (L:=[(0,i8 d),(1,i8 f),(2,i8 g3),(3,.nilIface)]) (F:=F) (H:=H) (K:=fun a w=>a.defers=[]/\Hp F w H) (R:=fun _ _=>False) ?_ ⟨rfl,by simp,fun t v b=>?_⟩ c (fun a w' q=>⟨q.1,.returning,by rw[<-hu],.tuple #[],results_none rfl _ _ _,rfl,rfl,q.2⟩) (fun _ _ q=>q.elim)
 ·skip
  refine u6 ?_;refine f_ (zL rfl rfl) ?_;refine x6 ?_;unfold At;exact fun a w hf c=>⟨hf.defers,c⟩
 ·match t,b with
  |0,b=>cases b;simp
  |1,b=>cases b;simp
  |2,b=>cases b;simp
  |3,b=>cases b;simp
  |n+4,b=>cases b
abbrev ix(g:Nat)(c:CM)(x:CL):As:=.blk g (.cells (lg c x).toArray 36)
abbrev ye(g:Nat)(e:Int):As:=.blk g (.cells #[.int .i64 e] 54)
def Ni(f g g3:Nat)(c d:CM)(e:Int)(F:l9)(R:List As)(w:World)(i:Hp F w (ix f c I0::ix g d I0::ye g3 e::R)):CallsD prog 136 #[i8 f,i8 g,i8 g3] (.panicking [{v:=O0,recovered:=false}]) w fun e j w'=>e=.returned (.tuple #[])/\j=.panicking [{v:=O0,recovered:=true}]/\Hp F w' (ix f c I0::ix g c I0::ye g3 4::R):=by
 refine callsD_of_wpS func136 rfl fun k l hu=>?_;apply wpS_seq;apply wpS_region;simp[wpOpsS,go_sem,recoverD,hu,Exit.thenS];refine wpS_of_wp ?_;refine BZ (N:=18) (L:=[(0,i8 f),(1,i8 g),(2,i8 g3),(3,O0)]) (F:=F) (H:=ix f c I0::ix g d I0::ye g3 e::R) (K:=fun a w=>a.defers=[]/\Hp F w (ix f c I0::ix g c I0::ye g3 4::R)) (R:=fun _ _=>False) ?_ ⟨rfl,by simp,fun t v b=>?_⟩ i (fun a w' q=>⟨q.1,.panicking [{v:=O0,recovered:=true}],rfl,.tuple #[],results_none rfl _ _ _,rfl,rfl,q.2⟩) (fun _ _ q=>q.elim)
 ·skip
  refine u6 ?_;refine f_ (uN rfl rfl) ?_;refine u6 ?_;refine f_ (rf (by intro m h;cases h) rfl) ?_;refine P1 ?_;intro o;refine wk 7 ?_;unfold At;exact fun a w hf i=>⟨hf.defers,i.drop⟩
 ·match t,b with
  |0,b=>cases b;simp
  |1,b=>cases b;simp
  |2,b=>cases b;simp
  |3,b=>cases b;simp
  |n+4,b=>cases b
section
variable{P:zj}{N:Nat}{K R:A1}{E:List (Nat×A1)}{L:G9}{F:l9}{H:List As}
def eF{fn:Func}{c:Value->List As->Prop}{t n b t1 d:Nat}{j te h k:zk}{cs:Array Value}{f:Value}{H' s:List As}[ha:HA P j true][hs:HS P j n][ha1:HA P h false](y:fn.results=#[.cell t j,.cell t1 h])(hv:find L t=some (.pointer (some ⟨b,0,none⟩)))(l:find L t1=some (.pointer (some ⟨d,0,none⟩)))(u:N1 H (.blk b (.cells cs te (0,0))) [] H')(z:Nat.beq n cs.size=true)(C:N1 H (.blk d (.cells #[f] k (0,0))) [] s)(A:List As)(g:c (.tuple #[.agg cs,f]) A)(D:∀w,Hp F w H->Hp F w A):At N (dE P fn F c) L F H:=by
 unfold At;intro a w hf m;have J:=Qu z;have e:sl cs 0 cs.size=cs.toList:=by
  simp only[sl,Kh];exact jm x7
 obtain⟨X,p,hc⟩:=Y9 (n:=cs.size) m u;injection p with p;subst p;rw[e] at hc;have r:=E2 (P:=P) hc;obtain⟨M,q,i⟩:=vy (o:=0) (v:=f) m C x7;injection q with q;subst q;have Y:=E2 (P:=P) (cs:=[f]) i;have O:a.tmps.getD t undef=.pointer (some ⟨b,0,none⟩):=hf.eval (x:=.tmp t) hv;have Q:a.tmps.getD t1 undef=.pointer (some ⟨d,0,none⟩):=hf.eval (x:=.tmp t1) l;subst J;refine⟨.tuple #[.agg cs,f],A,?_,g,D w m,hf.defers⟩;have S:a.tmps[t]?.getD undef=.pointer (some ⟨b,0,none⟩):=by simpa using O
 have T:a.tmps[t1]?.getD undef=.pointer (some ⟨d,0,none⟩):=by simpa using Q
 simp at r;have U:w.cell? ⟨d,0,none⟩=some f:=by
  have V:=i 0 f rfl
  rwa [show(⟨d,0,none⟩:Addr).add 0=⟨d,0,none⟩ from by simp[Addr.add_lit]] at V
 simp[results,y,S,T,asAddr,loadVar,ha.h,ha1.h,hs.h,r,U,Sem.run_bind]
def QK(ds:List Deferred)(N:Nat)(K:A1)(L:G9)(F:l9)(H:List As):Prop:=∀a w,H5 N L a->Hp F w H->K (rj ds a) w
def IB{x:zw}{f:FuncId}{ps qs:zq}{ops:Array Oper}{b:Array zk}{ty:zk}{pos:String}{af:Array Edge}(hv:ev L x=some (.func (.func f) ps.toArray qs.toArray))(h:QK [{target:=.fn (.func f) qs.toArray,args:=ps.toArray}] N K L F H):GL P N ops [⟨none,.defer ⟨.value x,#[],b⟩,ty,pos,af,none⟩] K E R L F H:=by
 unfold GL;intro a w hf c;refine wpList_plain rfl fun g d=>?_;unfold Oper.wp;have e:(execOp a.eval ⟨none,.defer ⟨.value x,#[],b⟩,ty,pos,af,none⟩).run P w=.ok (.defer {target:=.fn (.func f) qs.toArray,args:=ps.toArray}) w:=by
  simp[execOp,resolve,hf.eval hv,Deferred.ofValue,Sem.run_bind]
 rw[e,Oper.upon_defer,jE hf];exact d _ _ (h a w hf c)
def TL(P:zj)(y:Code)(Q:Exit->Act->World->Prop):Exit->Act->World->Prop
 |.normal=>fun a w=>y.wp P Q a w
 |e=>Q e
def nQ{ds:List Deferred}{x y:Code}{Q:Exit->Act->World->Prop}(h:QK ds N (fun a w=>x.wp P (TL P y Q) a w) L F H):QK ds N (fun a w=>(Code.seq x y).wp P Q a w) L F H:=fun a w hf b=>
 wp_seq (Code.wp_mono (fun e a w q=>by cases e<;>exact q) (h a w hf b))
def nR{ds:List Deferred}{id:Nat}{l:List Oper}{Q:Exit->Act->World->Prop}{L':G9}{Hr:List As}{Pq:Value->Prop}(h:GL P N l.toArray l (fun a w=>Q .normal (rj ds a) w) [(1,MJ N L' F Hr Pq)] (fun _ _=>False) L F H)(hp:∀tm w v,H5 N L' ⟨tm,[]⟩->Hp F w Hr->Pq v->Q (.panic [{v:=v,recovered:=false}]) (rj ds ⟨tm,[]⟩) w):QK ds N (fun a w=>(Code.region id l.toArray false).wp P Q a w) L F H:=fun a w hf d=>
 uC ds h (fun _ _ q=>q) (fun a w v ⟨tm,k,e,b,f,g,i⟩=>by
  obtain⟨c,j⟩:=Array.push_eq_push.1 e;subst j;obtain⟨m,n⟩:=a;simp only at c b;subst b;subst c;exact hp _ _ _ f g i) (fun _ _ q=>q.elim) hf d
def kP{ds:List Deferred}{y:Code}{Q:Exit->Act->World->Prop}(h:QK ds N (fun a w=>y.wp P Q a w) L F H):At N (fun a w=>TL P y Q .normal (rj ds a) w) L F H:=by
 unfold At;exact fun a w hf b=>h a w hf b
def Nj{ds:List Deferred}{Q:Exit->Act->World->Prop}(h:QK ds N (fun a w=>Q .ret a w) L F H):QK ds N (fun a w=>Code.ret.wp P Q a w) L F H:=fun a w hf b=>wp_ret (h a w hf b)
def ED(P:zj)(fn:Func)(F:l9)(Post:Value->List As->Prop):Ending->World->Prop:=fun e w=>∃v A,e=.returned v/\Post v A/\Hp F w A
def KpD(P:zj)(fn:Func)(F:l9)(Post:Value->List As->Prop):A1:=fun a w=>∃tm v,a.tmps=tm.push v/\bodyPostD P fn (ED P fn F Post) (.panic [{v:=v,recovered:=false}]) ⟨tm,a.defers⟩ w
def EE{f:FuncId}{fn:Func}{c:Code}{args:zq}{d:l_->Prop}{C:List As}{b:Value->List As->Prop}(N:Nat)(hf:P.funcs[f]? =some fn)(n:fn.body=some c)(o:fn.ntmps=N)(m:Nat.ble args.length N=true)(h:∀F:l9,d F.heap->G P N c (fun _ _=>False) [(1,KpD P fn F b)] (bodyPostD P fn (ED P fn F b) .ret) (aM 0 args) F C):Ct P f args d C b:=by
 intro w p hs r g;refine calls_of_wp_defers hf n ?_;rw[o];have j:=h (w6 w p) g;unfold G at j;refine Code.wp_mono (fun e a x q=>?_) (j _ w (U3 N args m) (Hp.start hs r))
 cases e with
 |normal=>exact q.elim
 |ret=>exact q
 |exit id=>simp[MQ,List.lookup] at q
 |goto l=>exact q.elim
 |panic ch=>
  rcases q with⟨k,v,i,_⟩|⟨k,v,i,rfl,q⟩
  ·cases i
  ·injection i with i;subst i;obtain⟨y,z,j,s⟩:=q;obtain⟨t,u⟩:=Array.push_eq_push.1 j;subst u;subst t;exact s
 |outgrown=>exact q.elim
def uO{fn:Func}{b:Value->List As->Prop}(h:At N (dE P fn F b) L F H):At N (bodyPostD P fn (ED P fn F b) .ret) L F H:=by
 unfold At at h⊢;intro a w hf c;obtain⟨v,A,d,e,f,g⟩:=h a w hf c;show Leaves P fn a.tmps _ a.defers .returning w;rw[g];exact⟨v,d,v,A,rfl,e,f⟩
def qv{fn:Func}{a:Value->List As->Prop}{tm:Array Value}{w:World}(h:At N (dE P fn F a) L F H)(hf:H5 N L ⟨tm,[]⟩)(b:Hp F w H):Leaves P fn tm (ED P fn F a) [] .returning w:=by
 unfold At at h;obtain⟨v,A,c,d,e,f⟩:=h _ w hf b;exact⟨v,c,v,A,rfl,d,e⟩
end
abbrev dfr(g5 g2 g3:Nat):Deferred:={target:=.fn (.func 136) #[i8 g5,i8 g2,i8 g3],args:=#[]}
def EF{fn:Func}{a:Value->List As->Prop}{tm:Array Value}{w:World}{F:l9}{H:List As}{L:G9}{b c g3:Nat}(h:At 72 (dE prog fn F a) L F H)(hf:H5 72 L ⟨tm,[]⟩)(g:Hp F w H):Leaves prog fn tm (ED prog fn F a) [dfr b c g3] .returning w:=by
 refine leaves_cons (f:=136) (args:=#[i8 b,i8 c,i8 g3]) x7 (by simp[go_sem]) ?_;refine(QJ b c g3 F H w g).mono ?_;rintro e i j ⟨rfl,rfl,d⟩;exact qv h hf d
def qA{fn:Func}{a:Value->List As->Prop}{tm:Array Value}{w:World}{F:l9}{R:List As}{L:G9}{b g g3:Nat}{c d:CM}{e:Int}(h:At 72 (dE prog fn F a) L F (ix b c I0::ix g c I0::ye g3 4::R))(hf:H5 72 L ⟨tm,[]⟩)(j:Hp F w (ix b c I0::ix g d I0::ye g3 e::R)):Leaves prog fn tm (ED prog fn F a) [dfr b g g3] (.panicking [{v:=O0,recovered:=false}]) w:=by
 refine leaves_cons (f:=136) (args:=#[i8 b,i8 g,i8 g3]) x7 (by simp[go_sem]) ?_;refine(Ni b g g3 c d e F R w j).mono ?_;rintro e k l ⟨rfl,rfl,i⟩;exact qv h hf i
abbrev aI(s:Bs):CM:={first s with uid:=oS s,kind:=F_ (R3 (M5 s))}
abbrev behind(s:Bs):Nat:=tP s+(M5 s).length
def aE(s:Bs)(c:CM)(e:Int):Prop:=
 if dp s=false then c=iK/\e=11
 else if F_ (R3 (M5 s))=0\/oS s=true/\F_ (R3 (M5 s))<15 then c=first s/\e=10
 else(bH s (aI s) (behind s) (some (c,s.length))/\e=0)\/((bH s (aI s) (behind s) none\/∃q,bH s (aI s) (behind s) (some q)/\q.2≠s.length)/\c=first s/\e=4)
abbrev QM(s:Bs)(v:Value)(A:List As):Prop:=∃c e x,aE s c e/\v=.tuple #[vo c x,.int .i64 e]/\sF c x A
def eG(c:CM)(h:c.set=[]/\c.a6B=[]/\c.keys=[]/\c.a6J=[]):sF c I0 []:=bG (.inl h.1) (.inl h.2.1) h.2.2.1 (.inl h.2.2.2)
instance hf_fnI (k:Nat):HF prog (OH k):=by unfold OH;split<;>infer_instance
def Ca(w:Bs):F_ w<=18:=by
 unfold F_;split
 ·rename_i h;have a:=List.idxOf_lt_length_of_mem h;have b:vZ.length=18:=rfl;omega
 ·omega
def IC{s:Bs}(h:dp s=true):(cV s).length+1<=s.length:=by
 unfold dp at h;simp only[jw] at h;exact iN h.2 x7
def Cb(s:Bs):I1 s [85,73,68,32] ((cV s).length+1)=tP s:=by
 unfold I1 tP oS;split<;>rfl
def sP(s:Bs)(hs:s.length<=1000000000):Ct prog 71 [B s] Gl [] (QM s):=by
 refine EE 72 func71 rfl rfl rfl fun F hg=>?_;refine u6 ?_;intro f;refine u6 ?_;intro g;refine u6 ?_;refine f_ (A2 rfl rfl) ?_;refine u6 ?_;intro d;refine A5 ?_;refine e_ (Qe d s hs) qw ?_;rintro v A ⟨rfl,p,c,rfl,ht⟩;refine T2 ?_ ?_<;>intro h
 ·have l:dp s=false:=by simpa using h
  refine D1 ?_;refine f_ (A2 rfl rfl) ?_;refine A5 ?_;refine B4 (uO ?_);exact eF rfl rfl rfl ud rfl ud [] ⟨iK,11,I0,by unfold aE;rw[zr l];exact qh,rfl,eG _ ⟨rfl,rfl,rfl,rfl⟩⟩ (fun w b=>b.dropAll)
 have l:dp s=true:=by simpa using h
 obtain⟨rfl,rfl⟩:=ht l;have y:=IC l;have j:=gL (s:=s) (w:=[85,73,68,32]) y;rw[Cb] at j;refine al ?_;refine f_ (A2 rfl rfl) ?_;refine u6 ?_;intro i;refine E8 ?_;refine e_ (T9 d s [85,73,68,32] ((cV s).length+1) (first s) I0 qb y qp) qw ?_;rintro v A ⟨rfl,rfl⟩;rw[Cb];refine P1 ?_;have O:=cg (q:=fun c=>!decide (c=32)) (s:=s) (p:=tP s) j.2;obtain⟨k,m⟩:=o9 (F_ (R3 (M5 s)));obtain⟨u,hu⟩:=o9 (oS s);have Q:k<=18:=m▸Ca _;by_cases hk0:k=0
 ·refine u6 ?_;refine e_ (fd 135 (fun c=>!decide (c=32)) HN d s (tP s) {first s with uid:=oS s} I0 qb j.2) qw ?_;rintro v A ⟨rfl,rfl⟩;rw[show O6 (fun c=>!decide (c=32)) s (tP s)=M5 s from rfl];refine c_ rfl (J_ (M5 s) (by unfold M5;omega)) qw rfl ?_;refine c_ rfl (mE (R3 (M5 s))) qw rfl ?_;rw[<-m,hk0,show MF 0=.tuple #[.agg #[.int .i64 0,.bool false,.nilFunc],.bool false] from rfl];refine P1 ?_;intro z;refine wk 19 ?_;refine B4 (uO ?_);exact eF rfl rfl rfl ud rfl ud [] ⟨first s,10,I0,by unfold aE;rw[zb (by rw[l];simp),zr (.inl (m▸hk0))];exact qh,rfl,eG _ ⟨rfl,rfl,rfl,rfl⟩⟩ (fun w b=>b.dropAll)
 obtain⟨q,S⟩:=o9 (decide (15<=k));refine u6 ?_;refine e_ (fd 135 (fun c=>!decide (c=32)) HN d s (tP s) {first s with uid:=oS s} I0 qb j.2) qw ?_;rintro v A ⟨rfl,rfl⟩;rw[show O6 (fun c=>!decide (c=32)) s (tP s)=M5 s from rfl];refine c_ rfl (J_ (M5 s) (by unfold M5;omega)) qw rfl ?_;refine c_ rfl (mE (R3 (M5 s))) qw rfl ?_;rw[<-m,show MF k=.tuple #[.agg #[.int .i64 (k:Nat),.bool q,.func (.func (OH k)) #[] #[]],.bool true] from by rw[S];unfold MF fnV;rw[zb hk0,ju hk0]];refine P1 ?_;intro z;refine A5 ?_;rw[<-hu];refine x8 [(0,B s),(2,i8 f),(3,i8 g),(4,i8 d),(5,i8 i),(6,i8 z),(47,.bool (u&&!q))] [.blk z (.cells #[.int .i64 (k:Nat),.bool q,.func (.func (OH k)) #[] #[]] 214),I5 d s (behind s) {first s with uid:=u} I0,ix i (first s) I0,ye g 0,ix f iK I0] ?_ ?_
 ·cases u
  all_goals (
   refine wk 14 ?_)
  all_goals exact p_ sub i_
 refine O_ ?_ ?_<;>intro h
 ·have T:oS s=true/\F_ (R3 (M5 s))<15:=by
   rw[<-hu,<-m];rw[jw] at h;refine⟨h.1,?_⟩;have Y:=h.2;rw[S] at Y;simpa using Y
  refine E8 ?_;refine B4 (uO ?_);exact eF rfl rfl rfl ud rfl ud [] ⟨first s,10,I0,by unfold aE;rw[zb (by rw[l];simp),zr (.inr T)];exact qh,rfl,eG _ ⟨rfl,rfl,rfl,rfl⟩⟩ (fun w b=>b.dropAll)
 have D:¬(F_ (R3 (M5 s))=0\/oS s=true/\F_ (R3 (M5 s))<15):=by
  rw[<-hu,<-m];rintro(U|⟨U,h2⟩)
  ·exact hk0 U
  ·rw[U,S,K3,Qk qb] at h;simp at h
 have n:∀{c e},((bH s (aI s) (behind s) (some (c,s.length))/\e=0)\/((bH s (aI s) (behind s) none\/∃q,bH s (aI s) (behind s) (some q)/\q.2≠s.length)/\c=first s/\e=4))->aE s c e:=fun h=>by
  unfold aE;rw[zb (by rw[l];simp),zb D];exact h
 have V:behind s<=s.length:=O;refine D1 ?_;refine f_ (oh rfl rfl) ?_;refine IB rfl ?_;refine nQ (nR (L':=[(2,i8 f),(3,i8 g),(5,i8 i)]) (Hr:=[ix i (first s) I0,ix f iK I0,ye g 0]) (Pq:=fun _=>False) ?_ fun _ _ _ _ _ h=>h.elim);refine wk 7 ?_;refine kP (nQ (nR (L':=[(2,i8 f),(3,i8 g),(5,i8 i)]) (Hr:=[ix i (first s) I0,ix f iK I0,ye g 0]) (Pq:=fun v=>bH s (aI s) (behind s) none/\v=O0) ?_ fun t w v hf b o=>?_))
 rotate_left 1
 ·obtain⟨o,rfl⟩:=o;refine .inr ⟨_,O0,rfl,rfl,t,O0,rfl,?_⟩;refine qA (L:=[(2,i8 f),(3,i8 g),(5,i8 i)]) (R:=[]) ?_ hf b;exact eF rfl rfl rfl ud rfl ud [] ⟨first s,4,I0,n (.inr ⟨.inl o,rfl,rfl⟩),rfl,eG _ ⟨rfl,rfl,rfl,rfl⟩⟩ (fun w b=>b.dropAll)
 subst m hu;refine E8 ?_;refine zA [.blk z (.cells #[.int .i64 (F_ (R3 (M5 s)):Nat),.bool q,.func (.func (OH (F_ (R3 (M5 s))))) #[] #[]] 214),ix i (first s) I0,ye g 0,ix f iK I0] rfl rfl rfl (MI d s hs (aI s) (behind s) V (Nat.pos_of_ne_zero hk0) Q) (fun w b=>b.perm (List.Perm.swap _ _ _)) pre rfl rfl sub (fun w b=>(tk (C:=[ix i (first s) I0,ix f iK I0,ye g 0])).hp b|>.left) (fun v h=>h) ?_;refine x6 ?_;rintro v A ⟨r,x,Z,hr,rfl,rfl,J⟩;refine z_ (H':=I5 d s r.2 r.1 x::ix i (first s) I0::ye g 0::ix f iK I0::Z) (fun w b=>?_) ?_
 ·have h9:Hp F w ((.blk z (.cells #[.int .i64 (F_ (R3 (M5 s)):Nat),.bool q,.func (.func (OH (F_ (R3 (M5 s))))) #[] #[]] 214)::[ix i (first s) I0,ye g 0,ix f iK I0])++(I5 d s r.2 r.1 x::Z)):=b.perm jj;exact h9.drop.perm (Qm (l₁:=[ix i (first s) I0,ye g 0,ix f iK I0]))
 refine x6 ?_;refine kP (nQ (nR (L':=[(2,i8 f),(3,i8 g),(5,i8 i)]) (Hr:=[ix i (first s) I0,ix f iK I0,ye g 0]) (Pq:=fun v=>r.2≠s.length/\v=O0) ?_ fun t w v hf b o=>?_))
 rotate_left 1
 ·obtain⟨o,rfl⟩:=o;refine .inr ⟨_,O0,rfl,rfl,t,O0,rfl,?_⟩;refine qA (L:=[(2,i8 f),(3,i8 g),(5,i8 i)]) (R:=[]) ?_ hf b;exact eF rfl rfl rfl ud rfl ud [] ⟨first s,4,I0,n (.inr ⟨.inr ⟨r,hr,o⟩,rfl,rfl⟩),rfl,eG _ ⟨rfl,rfl,rfl,rfl⟩⟩ (fun w b=>b.dropAll)
 refine Y1 ?_;refine f_ ((q_ rfl rfl).eq (v':=.bool (decide (r.2=s.length))) (qn (kz.2 Jn))) ?_;refine Ek _ rfl (H9 (decide (r.2=s.length))) i_ qw rfl rfl sub (fun w b=>(tk (C:=[ix i (first s) I0,ix f iK I0,ye g 0])).hp b|>.left) (fun v h=>⟨zu h.1,h.2⟩) ?_;rintro v A ⟨X,rfl,rfl⟩;refine x6 ?_;have M:r.2=s.length:=zy X;refine kP (nQ (nR (L':=[]) (Hr:=[]) (Pq:=fun _=>False) ?_ fun _ _ _ _ _ h=>h.elim));refine Y1 ?_;refine kP (Nj fun a w hf b=>?_);obtain⟨t,ds⟩:=a;have hd:=hf.defers;simp only at hd;subst hd;refine EF (L:=[(2,i8 f),(3,i8 g)]) (tm:=t) (w:=w) ?_ (hf.sub sub) b;exact eF rfl rfl rfl ud rfl ud Z ⟨r.1,0,x,n (.inl ⟨by rw[<-M];exact hr,rfl⟩),rfl,J⟩ (fun w b=>b.drop.drop.drop.drop)
open Go Go.Sl Go.Proofs.Tryz
structure qB(c:CM):Prop where
 le:rr c
 box:c.box.length<=64
 fl:∀f∈c.a6J,f.length<=32
def sQ{f x:Bs}(h:E_ f=some x):x.length<=32:=by
 unfold E_ at h;split at h
 ·next g hg=>
  injection h with h;subst h;have a:=Ks hg;have b:∀w∈S5,w.length<=32:=by decide
  exact b _ a
 ·split at h
  ·next k=>injection h with h;subst h;unfold W_;rw[kg];exact k.2
  ·cases h
def ID{s:Bs}{p:Nat}{q:List Bs×Nat}(h:oN s p=some q):q.1.length<=16/\∀f∈q.1,f.length<=32:=by
 unfold oN at h;split at h
 ·next k=>
  injection h with h;subst h;have a:=jI (mh (s:=s.drop p) (l:=(U6 (s.drop p)).1) (n:=(U6 (s.drop p)).2.1) (by rw[<-k]));exact⟨a.2.2,fun f hf=>sQ (a.1 f hf)⟩
 ·cases h
def Nk{s b:Bs}(h:jH s=some b):b.length<=64:=by
 unfold jH at h;split at h
 ·next k=>
  injection h with h;have a:s.length<=64:=by
   unfold vP at k;simp only[jw,j7] at k;exact k.1.1.2
  subst h;split
  ·decide
  ·exact a
 ·cases h
def Nl{s:Bs}{p:Nat}{q:List (Nat×Nat)×Nat}(h:rn s p=some q):q.1.length<=64:=by
 unfold rn at h;obtain⟨l,a,rfl⟩:=jx.1 h;unfold vW at a;split at a
 ·cases a
 ·have:=kE _ _ a;simp only;omega
def uP{s:Bs}{p:Nat}{q:Bs×Nat}(h:mS s p=some q):q.1.length<=4096:=by
 unfold mS at h;obtain⟨c,_,h⟩:=kj.1 h;obtain⟨n,b,h⟩:=kj.1 h;obtain⟨d,_,h⟩:=kj.1 h;split at h
 ·injection h with h;subst h;unfold mR at b;obtain⟨m,_,a⟩:=kj.1 b;split at a
  ·next k=>injection a with a;subst a;simp only[kr];omega
  ·cases a
 ·cases h
def EG{s:Bs}{p:Nat}{q:Bs×Nat}(h:iM s p=some q):q.1.length<=64:=by
 unfold iM at h;obtain⟨e,_,h⟩:=kj.1 h;unfold Ox at h;obtain⟨r,_,h⟩:=kj.1 h;obtain⟨b,a,rfl⟩:=jx.1 h;exact Nk a
def sR{l:List (Bs×Nat×Bool)}{s:Bs}{p:Nat}{q:List IT×Nat}(h:oO l s p=some q):q.1.length<=8:=by
 unfold oO at h;obtain⟨r,_,h⟩:=kj.1 h;split at h
 ·next k=>obtain⟨e,_,rfl⟩:=jx.1 h;exact k
 ·cases h
def Nm(q:UInt8->Bool)(s:Bs)(p:Nat):(O6 q s p).length<=s.length:=by
 unfold O6;have a:=(J9 (l:=s.drop p) q).length_le;rw[jz] at a;omega
def No{s:Bs}{p:Nat}{r:Bs×Nat}(h:lw s p=some r):r.1.length<=4096+s.length:=by
 unfold lw at h;split at h
 ·have:=uP h;omega
 split at h
 ·obtain⟨q,a,rfl⟩:=jx.1 h;have b:=yH (s:=s.drop p);have c:=BE (s.drop p);rw[a] at b c;simp only[Z6,jz] at b c;simp only;omega
 ·obtain⟨q,a,h⟩:=kj.1 h;split at h
  ·injection h with h;subst h;omega
  ·cases h
structure TM(c d:CM):Prop where
 tag:d.tag=c.tag
 kind:d.kind=c.kind
 uid:d.uid=c.uid
def gj{c:CM}{s:Bs}{p:Nat}{q:CM×Nat}(h:L5 c s p=some q):∃b:Bs,b.length<=64/\q.1={c with box:=b}:=by
 unfold L5 at h;obtain⟨r,a,rfl⟩:=jx.1 h;exact⟨r.1,EG a,rfl⟩
def QN{c:CM}{s:Bs}{p:Nat}{q:CM×Nat}(h:wg c s p=some q):∃n b,q.1={c with a6D:=n,a6C:=b}:=by
 unfold wg at h;split at h
 ·obtain⟨r,_,rfl⟩:=jx.1 h;exact⟨_,_,rfl⟩
 ·injection h with h;subst h;exact⟨_,_,rfl⟩
def Cc{c:CM}{s:Bs}{p:Nat}{q:CM×Nat}(hs:s.length<=1000000000)(h:T7 c s p=some q)(x:c.kind≠15)(hc:qB c):qB q.1/\TM c q.1:=by
 have i:∀{b:Bs},b.length<=64->qB {c with box:=b}/\TM c {c with box:=b}:=fun d=>⟨⟨⟨hc.le.set,hc.le.a6B,hc.le.keys,hc.le.ksets,hc.le.a6J,hc.le.data,hc.le.pat⟩,d,hc.fl⟩,rfl,rfl,rfl⟩;unfold T7 at h;split at h
 ·injection h with h;subst h;exact⟨hc,rfl,rfl,rfl⟩
 split at h
 ·obtain⟨e,_,rfl⟩:=jx.1 h;exact⟨hc,rfl,rfl,rfl⟩
 split at h
 ·unfold dI at h;obtain⟨r,_,h⟩:=kj.1 h;obtain⟨t,_,rfl⟩:=jx.1 h;exact⟨⟨⟨hc.le.set,hc.le.a6B,hc.le.keys,hc.le.ksets,hc.le.a6J,hc.le.data,hc.le.pat⟩,hc.box,hc.fl⟩,rfl,rfl,rfl⟩
 split at h
 ·unfold lx at h;obtain⟨r,a,rfl⟩:=jx.1 h;obtain⟨b,d,e⟩:=gj a;split
  ·simp only[e];exact⟨⟨⟨hc.le.set,hc.le.a6B,hc.le.keys,hc.le.ksets,hc.le.a6J,hc.le.data,hc.le.pat⟩,d,hc.fl⟩,rfl,rfl,rfl⟩
  ·rw[e];exact i d
 split at h
 ·obtain⟨b,d,e⟩:=gj h;rw[e];exact i d
 split at h
 ·unfold jL at h;obtain⟨e,_,h⟩:=kj.1 h;split at h
  ·obtain⟨t,y,rfl⟩:=jx.1 h;exact⟨⟨⟨hc.le.set,hc.le.a6B,hc.le.keys,hc.le.ksets,hc.le.a6J,hc.le.data,by have:=No y;simp only;omega⟩,hc.box,hc.fl⟩,rfl,rfl,rfl⟩
  ·injection h with h;subst h;exact⟨⟨⟨hc.le.set,hc.le.a6B,hc.le.keys,hc.le.ksets,hc.le.a6J,hc.le.data,by have:=Nm iL s e;simp only;omega⟩,hc.box,hc.fl⟩,rfl,rfl,rfl⟩
 split at h
 ·unfold jM at h;obtain⟨r,a,h⟩:=kj.1 h;obtain⟨e,_,h⟩:=kj.1 h;obtain⟨t,j,rfl⟩:=jx.1 h;obtain⟨b,d,e⟩:=gj a;simp only[e];exact⟨⟨⟨hc.le.set,sR j,hc.le.keys,hc.le.ksets,hc.le.a6J,hc.le.data,hc.le.pat⟩,d,hc.fl⟩,rfl,rfl,rfl⟩
 split at h
 ·unfold jN at h;obtain⟨r,a,h⟩:=kj.1 h;obtain⟨e,_,h⟩:=kj.1 h;obtain⟨b,d,e⟩:=gj a;split at h
  ·obtain⟨f,hf,h⟩:=kj.1 h;obtain⟨w,_,h⟩:=kj.1 h;obtain⟨t,j,rfl⟩:=jx.1 h;obtain⟨o,v⟩:=ID hf;simp only[e];exact⟨⟨⟨hc.le.set,hc.le.a6B,hc.le.keys,hc.le.ksets,o,uP j,hc.le.pat⟩,d,v⟩,rfl,rfl,rfl⟩
  ·obtain⟨t,j,rfl⟩:=jx.1 h;simp only[e];exact⟨⟨⟨hc.le.set,hc.le.a6B,hc.le.keys,hc.le.ksets,hc.le.a6J,uP j,hc.le.pat⟩,d,hc.fl⟩,rfl,rfl,rfl⟩
 have g:∀{k:CM->Nat->Option (CM×Nat)},dm c s p k=some q->∃(l:List (Nat×Nat)) (e:Nat),l.length<=64/\k {c with set:=l} e=some q:=fun{k} h=>by
  unfold dm at h;obtain⟨e,_,h⟩:=kj.1 h;obtain⟨r,a,h⟩:=kj.1 h;exact⟨r.1,r.2,Nl a,h⟩
 split at h
 ·obtain⟨l,e,m,h⟩:=g h;unfold aW at h;obtain⟨w,_,h⟩:=kj.1 h;unfold oP at h;obtain⟨r,a,h⟩:=kj.1 h;have z:r.1.length<=8:=by
   split at a
   ·exact sR a
   ·obtain⟨t,_,rfl⟩:=jx.1 a;simp
  obtain⟨n,b,e⟩:=QN h;rw[e];exact⟨⟨⟨m,z,hc.le.keys,hc.le.ksets,hc.le.a6J,hc.le.data,hc.le.pat⟩,hc.box,hc.fl⟩,rfl,rfl,rfl⟩
 split at h
 ·obtain⟨l,e,m,h⟩:=g h;unfold aW at h;obtain⟨w,_,h⟩:=kj.1 h;unfold oQ at h;obtain⟨r,a,h⟩:=kj.1 h;obtain⟨A,_,h⟩:=kj.1 h;obtain⟨C,_,h⟩:=kj.1 h;obtain⟨f,hf,rfl⟩:=jx.1 h;obtain⟨o,v⟩:=ID hf;have hu:∃n b,r.1={c with set:=l,a6D:=n,a6C:=b}:=by
   unfold PG at a;split at a
   ·obtain⟨t,_,a⟩:=kj.1 a;obtain⟨u,_,rfl⟩:=jx.1 a;exact⟨_,_,rfl⟩
   ·injection a with a;subst a;exact⟨_,_,rfl⟩
  obtain⟨n,b,e⟩:=hu;simp only[e];exact⟨⟨⟨m,hc.le.a6B,hc.le.keys,hc.le.ksets,o,hc.le.data,hc.le.pat⟩,hc.box,v⟩,rfl,rfl,rfl⟩
 ·obtain⟨l,e,m,h⟩:=g h;obtain⟨b,d,e⟩:=gj h;rw[e];exact⟨⟨⟨m,hc.le.a6B,hc.le.keys,hc.le.ksets,hc.le.a6J,hc.le.data,hc.le.pat⟩,d,hc.fl⟩,rfl,rfl,rfl⟩
structure a2r(s:Bs)(c:CM)(e:Int):Prop where
 le:qB c
 er:e=11\/e=10\/e=4\/e=0
 no:e=11->c=iK
 tag:e≠11->c.tag=cV s/\dp s=true
 kind:e=0->1<=c.kind/\c.kind<=18
def gV{c:CM}(e:c.a6F=[])(g:c.set=[])(h:c.a6B=[])(a:c.keys=[])(b:c.a6J=[])(i:c.data=[])(j:c.box=[]):qB c:=⟨⟨by rw[g];decide,by rw[h];decide,by rw[a];decide,(fun k d=>by rw[a] at d;cases d),by rw[b];decide,by rw[i];decide,by rw[e];decide⟩,by rw[j];decide,fun f hf=>by rw[b] at hf;cases hf⟩
def qC(s:Bs):qB (first s):=gV rfl rfl rfl rfl rfl rfl rfl
def kQ{s:Bs}{c:CM}{e:Int}(hs:s.length<=1000000000)(h:aE s c e):a2r s c e:=by
 unfold aE at h;split at h
 ·obtain⟨rfl,rfl⟩:=h;exact⟨gV rfl rfl rfl rfl rfl rfl rfl,.inl rfl,fun _=>rfl,fun h=>absurd rfl h,qx⟩
 next b=>
 have b:dp s=true:=by simpa using b
 split at h
 ·obtain⟨rfl,rfl⟩:=h;exact⟨qC s,.inr (.inl rfl),qx,fun _=>⟨rfl,b⟩,qx⟩
 next k=>
 rcases h with⟨h,rfl⟩|⟨_,rfl,rfl⟩
 ·have a:qB (aI s):=gV rfl rfl rfl rfl rfl rfl rfl;have d:1<=(aI s).kind/\(aI s).kind<=18:=by
   have:=Ca (R3 (M5 s));have j:F_ (R3 (M5 s))≠0:=fun j=>k (.inl j);show 1<=F_ (R3 (M5 s))/\F_ (R3 (M5 s))<=18;omega
  unfold bH at h;split at h
  ·next f=>
   rcases h with h|⟨l,e,h,i,g⟩
   ·cases h
   ·injection h with h;have h:=jh Prod.fst h;simp only at h;subst h;exact⟨⟨⟨a.le.set,a.le.a6B,i,g,a.le.a6J,a.le.data,a.le.pat⟩,a.box,a.fl⟩,.inr (.inr (.inr rfl)),qx,fun _=>⟨rfl,b⟩,fun _=>d⟩
  ·next f=>
   obtain⟨i,g⟩:=Cc hs h.symm f a;exact⟨i,.inr (.inr (.inr rfl)),qx,fun _=>⟨g.tag,b⟩,fun _=>by rw[g.kind];exact d⟩
 ·exact⟨qC s,.inr (.inr (.inl rfl)),qx,fun _=>⟨rfl,b⟩,qx⟩
open Go Go.Sl Go.RowKit Go.Proofs.Tryz
def zM{P:zj}{L:G9}{dst:Option Tmp}{ty t e:zk}{pos:String}{af:Array Edge}{gd:Option (Nat×Bool)}{z:Value}{ps:List (Nat×zw)}{vs:List (Nat×Value)}{cells:Array Value}{len sz:Nat}[hu:HU P t (.array len e)][hs:HS P e sz][hz:HZ P t z](hx:AA L ps=some vs)(a:Instr.fill (fun i=>some (i*sz,sz)) z.cells vs=some cells):E5 P ⟨dst,.build t ps.toArray,ty,pos,af,gd⟩ L (.agg cells):=
 db hx (fun w=>by simp[Instr.build,hz.h,run_underlying hu.h,hs.h,a])
def xt{P:zj}{L:G9}{dst:Option Tmp}{ty t e:zk}{pos:String}{af:Array Edge}{gd:Option (Nat×Bool)}{x:zw}{a:qr}{n c:Nat}[hu:HU P t (.slice e)](hx:ev L x=some (.slice a n c)):E5 P ⟨dst,.call ⟨.builtin .cap,#[x],#[t]⟩,ty,pos,af,gd⟩ L (.int .i64 c):=by
 unfold E5;intro ρ w hf;simp[execOp,resolve,invoke,builtin,Builtin.cap_,hf _ _ hx,run_underlying hu.h,goInt]
def Np(n:Nat)(k:n<=1000000):Ct prog 339 [.slice none 0 0,.int .i64 (n:Nat)] (fun _=>True) [] (fun v A=>∃a c,v=.slice a 0 c/\A=[B0 a [] c]):=by
 refine b_ 27 func339 rfl rfl rfl ?_;intro F _;refine A5 ?_;refine f_ ((F8 rfl rfl).eq (v':=.bool false) (qn qj)) ?_;refine A5 ?_;refine f_ (xt rfl) ?_;refine E8 ?_;refine f_ ((E7 rfl rfl qb).eq (v':=.int .i64 (n:Nat)) (by congr 1)) ?_;refine eV ?_ ?_<;>intro h
 ·have i:0<n:=by have:=zy h;omega
  refine A5 ?_;refine f_ (xt rfl) ?_;refine f_ ((C0 rfl rfl rfl qb).eq (v':=.slice none 0 0) (by simp[ak])) ?_;refine u6 ?_;refine pb rfl rfl i qp rfl (by show n*16<=_;omega) qb rfl ?_;intro b d f;refine A5 ?_;refine f_ ((C0 rfl rfl rfl qb).eq (v':=.slice (some ⟨b,0,none⟩) 0 d) (by simp[ez])) ?_;refine cn ?_;exact d_ rfl rfl [B0 (some ⟨b,0,none⟩) [] d] ⟨_,_,rfl,rfl⟩ (fun w e=>by have g:=e.cutOwn (j:=0) uh qb;rw[Kx,Km] at g;exact g)
 ·refine M4 ?_;exact d_ rfl rfl [B0 none [] 0] ⟨none,0,rfl,rfl⟩ (fun w e=>e.addNil _ _)
def EH(l m:List Bs)(a b:qr)(c d e:Nat)(r:qr)(hl:l.length<=100000)(O:m.length<=100000):Ct prog 270 [.slice r 2 e] (fun h=>n9 h r [.slice a l.length c,.slice b m.length d]/\n9 h a (fV l)/\n9 h b (fV m)) [] (fun v A=>∃x y,v=.slice x (l++m).length y/\A=[B0 x (l++m) y]):=by
 refine b_ 36 func270 rfl rfl rfl ?_;rintro F ⟨s,ha,D⟩;have t:∃z,r=some z:=by obtain⟨z,e,_⟩:=s x7;exact⟨z,e⟩
 have o:∀{w:World} {H:List As},Hp F w H->M9 (hp w) (N_ r 0) [.slice a l.length c]:=fun f=>nr f s x7 (fun j u hu=>by match j,hu with|0,hu=>simp at hu;subst hu;rfl);have cT:∀{w:World} {H:List As},Hp F w H->M9 (hp w) (N_ r 1) [.slice b m.length d]:=fun f=>nr f s x7 (fun j u hu=>by match j,hu with|0,hu=>simp at hu;subst hu;rfl);refine al ?_;refine o8 (ι:=Nat) (fun k=>k<=2) (fun k=>[(0,.slice r 2 e),(9,.slice r 2 e),(10,.int .i64 2),(11,r7 k),(3,.int .i64 ((if k=0 then 0 else if k=1 then l.length else l.length+m.length:Nat):Int))]) (fun _=>[]) (fun k=>2-k) 0 qb sub i_ ?_;intro k C;refine u6 ?_;obtain rfl|rfl|rfl:k=0\/k=1\/k=2:=by omega
 ·refine u6 ?_;refine r_ (l5 rfl (fun w f=>o f)) ?_;refine P1 ?_;refine f_ ((r8 rfl rfl (by simp;omega)).eq (v':=.int .i64 (l.length:Nat)) x7) ?_;refine A5 ?_;refine f_ ((F8 rfl rfl).eq (v':=.bool false) (qn qj)) ?_;refine A5 ?_;exact l8 1 qb qb sub i_
 ·refine u6 ?_;refine r_ (l5 rfl (fun w f=>cT f)) ?_;refine P1 ?_;refine f_ ((r8 rfl rfl (by simp;omega)).eq (v':=.int .i64 ((l.length+m.length:Nat):Int)) x7) ?_;refine A5 ?_;refine f_ ((F8 rfl rfl).eq (v':=.bool false) (qn qj)) ?_;refine A5 ?_;exact l8 2 qb qb sub i_
 refine u6 ?_;refine e_ (Np (l.length+m.length) qb) qw ?_;rintro v A ⟨J,M,rfl,rfl⟩;refine P1 ?_;refine o8 (ι:=Nat×qr×Nat) (fun k=>k.1<=2) (fun k=>[(0,.slice r 2 e),(25,.slice r 2 e),(26,.int .i64 2),(27,r7 k.1),(6,.slice k.2.1 (if k.1=0 then[] else if k.1=1 then l else l++m).length k.2.2)]) (fun k=>[B0 k.2.1 (if k.1=0 then[] else if k.1=1 then l else l++m) k.2.2]) (fun k=>2-k.1) (0,J,M) x7 sub i_ ?_;rintro⟨k,x,y⟩ C;simp only at C;refine u6 ?_;obtain rfl|rfl|rfl:k=0\/k=1\/k=2:=by omega
 ·refine u6 ?_;refine r_ (l5 rfl (fun w f=>o f)) ?_;refine E8 ?_;refine C4 (xs:=fV []) (n:=0) (news:=fV l) rfl rfl (H':=fun p q=>[.own (.slice p (0+l.length) q) 9 1 (fV []++fV l)]) (fun p q=>.here) (fun w f=>ha.le f.keep) (by rw[M6,Z0]) rfl rfl (lu _) (by show(0+l.length)*16<=_;omega) qb rfl ?_;intro yo g _;refine u6 ?_;rw[show 0+l.length=l.length from j6 _];refine A5 ?_;exact l8 (i:=(0,x,y)) (1,yo,g) x7 x7 sub i_
 ·refine u6 ?_;refine r_ (l5 rfl (fun w f=>cT f)) ?_;refine E8 ?_;refine C4 (xs:=fV l) (n:=l.length) (news:=fV m) rfl rfl (H':=fun p q=>[.own (.slice p (l.length+m.length) q) 9 1 (fV l++fV m)]) (fun p q=>.here) (fun w f=>D.le f.keep) (by rw[M6,Z0]) rfl rfl (lu _) (by show(l.length+m.length)*16<=_;omega) qb rfl ?_;intro yo g _;refine u6 ?_;rw[<-zg];refine A5 ?_;exact l8 (i:=(1,x,y)) (2,yo,g) x7 x7 sub (fun w f=>by rw[<-gH] at f;exact f)
 refine M4 ?_;exact d_ rfl rfl [B0 x (l++m) y] ⟨x,y,rfl,rfl⟩ i_
def zN(l m:List Bs)(a b:qr)(c d:Nat)(g:m.length<=100000):Ct prog 197 [.slice a l.length c,.slice b m.length d] (fun h=>n9 h a (fV l)/\n9 h b (fV m)) [] (PT m):=by
 refine b_ 7 func197 rfl rfl rfl ?_;rintro F ⟨ha,e⟩;refine A5 ?_;refine e_ (pp m b d qb) (fun h f _=>e.le f) ?_;rintro v A ⟨x,y,rfl,rfl⟩;refine D0 ?_;exact d_ rfl rfl _ ⟨x,y,rfl,rfl⟩ i_
def Nq(l m:List Bs)(a b:qr)(c d:Nat)(hl:l.length<=100000)(k:m.length<=100000):Ct prog 198 [.slice a l.length c,.slice b m.length d] (fun h=>n9 h a (fV l)/\n9 h b (fV m)) [] (PT (l++m)):=by
 refine b_ 10 func198 rfl rfl rfl ?_;rintro F ⟨ha,n⟩;refine E8 ?_;refine y6 (ps:=[(0,.tmp 5),(1,.tmp 6)]) (vs:=[(0,.slice a l.length c),(1,.slice b m.length d)]) (xs:=[.slice a l.length c,.slice b m.length d]) rfl rfl rfl rfl rfl rfl rfl rfl ?_;rintro o _;refine e_ (EH l m a b c d 2 o hl k) ?pre ?_;(case pre=>exact fun h f ⟨p,e⟩=>⟨A_.rd e ud,ha.le f,n.le f⟩);rintro v A ⟨x,y,rfl,rfl⟩;refine e_ (pp (l++m) x y (by rw[zg];omega)) ?pre ?_;(case pre=>exact fun h f ⟨p,e⟩=>A_.rd e ud);rintro v A ⟨g,i,rfl,rfl⟩;refine D0 ?_;exact d_ rfl rfl _ ⟨g,i,rfl,rfl⟩ (fun w j=>j.drop.perm (.refl _)|>fun _=>(tk (C:=[B0 g (U5 (l++m)) i])).hp j|>.left)
def xu(g:Nat)(m:List Bs)(b:qr)(d:Nat)(e:m.length<=100000)(f:Bs):Pu prog 272 [B f,i8 g] (fun h=>aY g (.slice b m.length d) 34 h/\n9 h b (fV m)) (.bool (decide (f∈m))):=by
 refine b_ 7 func272 rfl rfl rfl ?_;rintro F ⟨hg,a⟩;refine E8 ?_;refine c_ rfl (uL m b d f qb) (fun h c _=>a.le c) rfl ?_;refine D0 ?_;exact d_ rfl rfl [] qh i_
def Nr(l:List Bs)(a:qr)(c:Nat)(f:FuncId)[HF prog f](qs:zq)(b:l_->Prop)[Mn b](q:Bs->Bool)(d:∀x∈l,Pu prog f (B x::qs) b (.bool (q x)))(hl:l.length<=1000000000):Ct prog 271 [.slice a l.length c,.func (.func f) #[] qs.toArray] b [B0 a l c] (fun v A=>v=.slice a (l.filter fun x=>!q x).length c/\A=[B0 a (l.filter fun x=>!q x) c]):=by
 have h:=Dy l a c f qs b q d hl;simp only[<-ke] at h;exact h
def zO(l m:List Bs)(a b:qr)(c d:Nat)(hl:l.length<=100000)(j:m.length<=100000):Ct prog 199 [.slice a l.length c,.slice b m.length d] (fun h=>n9 h a (fV l)/\n9 h b (fV m)) [] (fun v A=>∃x y,v=.slice x ((U5 l).filter fun f=>!decide (f∈m)).length y/\A=[B0 x ((U5 l).filter fun f=>!decide (f∈m)) y]):=by
 refine b_ 9 func199 rfl rfl rfl ?_;rintro F ⟨ha,k⟩;have n:=Bk l;refine D1 ?_;refine M1 rfl rfl rfl ?_;intro e;refine A5 ?_;refine e_ (pp l a c qb) (fun h g _=>ha.le g) ?_;rintro v A ⟨x,y,rfl,rfl⟩;refine u6 ?_;refine e_ (Nr (U5 l) x y 272 [i8 e] (fun h=>aY e (.slice b m.length d) 34 h/\n9 h b (fV m)) (fun f=>decide (f∈m)) (fun f _=>xu e m b d j f) qb) ?pre ?_;(case pre=>exact fun h g i=>⟨L6 i,k.le g⟩);rintro v A ⟨rfl,rfl⟩;refine D0 ?_;exact d_ rfl rfl _ ⟨x,y,rfl,rfl⟩ (fun w o=>Hp.left (A:=[_]) o)
def a2s(q:List Bs×Int)(v:Value)(A:List As):Prop:=∃x y,v=.tuple #[.slice x q.1.length y,.int .i64 q.2]/\A=[B0 x q.1 y]
abbrev TO:Array Value:=#[.func (.func 197) #[] #[],.func (.func 198) #[] #[],.func (.func 199) #[] #[]]
def zP(l:List Bs)(how:Int)(m:List Bs):List Bs:=if how=0 then U5 m else if how=1 then U5 (l++m) else(U5 l).filter fun f=>!decide (f∈m)
def EI(l m:List Bs)(how:Int)(a b:qr)(c d:Nat)(hl:l.length<=100000)(t:m.length<=100000)(u:∀f∈l,f.length<=lD)(z:∀f∈m,f.length<=lD):Ct prog 119 [.slice a l.length c,.int .i64 how,.slice b m.length d] (fun h=>n9 h a (fV l)/\n9 h b (fV m)) [] (a2s (G8 l how m)):=by
 obtain⟨p,C⟩:=o9 (G_ l);obtain⟨q,D⟩:=o9 (G_ m);obtain⟨r,J⟩:=o9 (decide (how<0));obtain⟨S,M⟩:=o9 (decide (3<=how));refine b_ 37 func119 rfl rfl rfl ?_;rintro F ⟨ha,s⟩;refine RG ?_;refine f_ (zM rfl rfl) ?_;refine u6 ?_;intro T;refine u6 ?_;refine x8 [(0,.slice a l.length c),(1,.int .i64 how),(2,.slice b m.length d),(8,i8 T),(26,.bool (!p||(!q||(r||S))))] [.blk T (.cells TO 259)] ?_ ?_
 ·cases p<;>cases q<;>cases r
  all_goals (
   refine u6 ?_;refine c_ rfl (gU l a c qb u) (fun h g _=>ha.le g) rfl ?_;rw[<-C];refine E8 ?_;(first|refine u_ ?_|(refine v_ ?_;refine c_ rfl (gU m b d qb z) (fun h g _=>s.le g) rfl ?_;rw[<-D]));refine P1 ?_;(first|refine u_ ?_|(refine v_ ?_;refine f_ ((F8 rfl rfl).eb J) ?_));refine E8 ?_;(first|refine u_ ?_|(refine v_ ?_;refine f_ ((K_ rfl rfl).eb M) ?_));refine u6 ?_)
  all_goals exact p_ sub i_
 refine O_ ?_ ?_<;>intro h
 ·have e:G8 l how m=([],1):=by
   unfold G8;refine zr ?_;rw[<-C,<-D]
   revert h
   cases p<;>cases q<;>cases r<;>cases S<;>simp<;>(try exact .inl (zy J.symm))<;>(try exact .inr (zy M.symm))
  rw[e];refine M4 ?_;exact w8 rfl rfl rfl [B0 none [] 0] ⟨none,0,rfl,rfl⟩ (fun w j=>j.dropAll.addNil _ _)
 have O:¬how<0:=fun k=>by rw[J,ju k] at h;cases p<;>cases q<;>simp at h
 have Q:¬3<=how:=fun k=>by rw[M,ju k] at h;cases p<;>cases q<;>cases r<;>simp at h
 have e:G8 l how m=if 16<(zP l how m).length then([],7) else(zP l how m,0):=by
  unfold G8 zP;refine zb ?_;rw[<-C,<-D];rintro(n|n|n|n)
  ·rw[n] at h;simp at h
  ·rw[n] at h;cases p<;>simp at h
  ·exact O n
  ·exact Q n
 rw[e];refine x6 ?_;refine n8 (ι:=qr×Nat) (fun _=>True) (fun i=>[(9,.slice i.1 (zP l how m).length i.2)]) (fun i=>[B0 i.1 (zP l how m) i.2]) ?_ ?_
 ·obtain rfl|rfl|rfl:how=0\/how=1\/how=2:=by omega
  ·refine al ?_;refine A4 _ rfl rfl rfl (zN l m a b c d t) i_ (fun h g _=>⟨ha.le g,s.le g⟩) rfl ?_;rintro v A ⟨x,y,rfl,rfl⟩;refine u6 ?_;exact g_ (x,y) trivial (fun w j=>Hp.left (A:=[_]) j)
  ·refine al ?_;refine A4 _ rfl rfl rfl (Nq l m a b c d hl t) i_ (fun h g _=>⟨ha.le g,s.le g⟩) rfl ?_;rintro v A ⟨x,y,rfl,rfl⟩;refine u6 ?_;exact g_ (x,y) trivial (fun w j=>Hp.left (A:=[_]) j)
  ·refine al ?_;refine A4 _ rfl rfl rfl (zO l m a b c d hl t) i_ (fun h g _=>⟨ha.le g,s.le g⟩) rfl ?_;rintro v A ⟨x,y,rfl,rfl⟩;refine u6 ?_;exact g_ (x,y) trivial (fun w j=>Hp.left (A:=[_]) j)
 rintro⟨x,y⟩ _;refine eV ?_ ?_<;>intro h
 ·have o:16<(zP l how m).length:=by have:=zy h;omega
  rw[zr o];refine M4 ?_;exact w8 rfl rfl rfl [B0 none [] 0] ⟨none,0,rfl,rfl⟩ (fun w j=>j.dropAll.addNil _ _)
 ·have o:¬16<(zP l how m).length:=by have:=zu h;omega
  rw[zb o];refine cn ?_;exact w8 rfl rfl rfl _ ⟨x,y,rfl,rfl⟩ i_
