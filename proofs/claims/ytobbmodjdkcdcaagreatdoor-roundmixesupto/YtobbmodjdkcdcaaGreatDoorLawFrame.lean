import Derived.Test.YtobbmodjdkcdcaaGreatDoorLawNoise
set_option linter.all false
set_option maxRecDepth 20000
namespace Go.Proofs.YtobbmodjdkcdcaaGreatDoor
open Go Go.Sim
open Go.IntKind (wrap)
variable [Fu]
def P1 (v:Int) (k:Nat):List Int:=(List.range k).map λj=>wrap .u8 (K_ .u64 v ((8*(k - 1 - j):Nat):Int))
theorem ip (v:Int) (k:Nat):(P1 v k).length=k:=by simp[P1]
theorem lO {x:List Int} {v z:Int} {k:Nat} (hz:z=k) (hk:k≤8) (hx:x.length<2^31):ey x v z=some (x++P1 v k):=by subst hz;unfold ey;rw[wrap64 (x:=(k:Int) - 1) (by omega)];rw[aY (s0:=(x,(k:Int) - 1)) (r:=x++P1 v k) (λi=>(x++(List.range i).map (λj=>wrap .u8 (K_ .u64 v ((8*(k - 1 - j):Nat):Int))),(k:Int) - 1 - (i:Int))) 0 k (HH _) ?_ ?_ ?_];rfl;intro i _ hi;have h1:decide ((k:Int) - 1 - (i:Int)≥0)=true:=Ho (by omega);(have e:(k:Int) - 1 - (i:Int)=((k - 1 - i:Nat):Int):=by omega);(have h3:wrap .i64 (8*((k:Int) - 1 - (i:Int)))=((8*(k - 1 - i):Nat):Int):=by rw[wrap64 (by omega)];omega);have h2:decide (0≤((8*(k - 1 - i):Nat):Int))=true:=Ho (by omega);simp only[h1,h3,h2,Hn];rw[aW (by rw[cR];simp;omega)];simp only[aB];rw[HS,de (λj=>wrap .u8 (K_ .u64 v ((8*(k - 1 - j):Nat):Int))),wrap64 (by omega)];congr 3;omega;have h1:decide ((k:Int) - 1 - (k:Int)≥0)=false:=Hp (by omega);simp only[h1,Hm,P1];simp
theorem F9 (x:List Int) (v k:Int):dq x v k=ey x v k:=rfl
def p_ (p:List Int):Int:=p.foldl (λv b=>PV .u64 (OX .u64 v 8) (wrap .u64 b)) 0
theorem wt {p:List Int} (h:p.length<2^30):gh p=some (p_ p):=by unfold gh;rw[aY (s0:=(0,0)) (r:=p_ p) (λi=>((p.take i).foldl (λv b=>PV .u64 (OX .u64 v 8) (wrap .u64 b)) 0,(i:Int))) 0 p.length (HH _) ?_ ?_ rfl];rfl;intro i _ hi;have h1:decide ((i:Int)<(p.length:Int))=true:=Ho (by omega);simp only[h1,Hn];rw[aJ rfl hi,wrap64 (by omega)];simp only[aB];rw[HA hi,I9];simp[List.getD,hi];have h1:decide ((p.length:Int)<(p.length:Int))=false:=Hp (by omega);simp only[h1,Hm,HY,p_]
def yv (s:aN) (b:Int):aN:=({({s with a:=Int.tmod (wrap .u32 (s.a+(wrap .u32 b))) 65521}:aN) with b:=Int.tmod (wrap .u32 ((({s with a:=Int.tmod (wrap .u32 (s.a+(wrap .u32 b))) 65521}:aN).b)+(({s with a:=Int.tmod (wrap .u32 (s.a+(wrap .u32 b))) 65521}:aN).a))) 65521}:aN)
def Qb (s:aN) (p:List Int):aN:=p.foldl yv s
theorem uY (s:aN) (p q:List Int):Qb s (p++q)=Qb (Qb s p) q:=by simp[Qb,I9]
theorem zQ {s:aN} {p:List Int} (h:p.length<2^30):ik s p=some (Qb s p):=by
 unfold ik
 rw[aY (s0:=(0,s)) (r:=Qb s p) (λi=>((i:Int),Qb s (p.take i))) 0 p.length (HH _) ?_ ?_ rfl]
 · rfl
 · intro i _ hi
   have h1:decide ((i:Int)<(p.length:Int))=true:=Ho (by omega)
   simp only[h1,Hn]
   rw[aJ rfl hi,wrap64 (by omega)]
   simp only[aB]
   rw[HA hi,uY]
   have e:p.getD i 0=p[i]:=by simp[List.getD,hi]
   rw[e]
   rfl
 · have h1:decide ((p.length:Int)<(p.length:Int))=false:=Hp (by omega)
   simp only[h1,Hm,HY]
def lQ (s:aN):Int:=PV .u32 (OX .u32 s.b 16) s.a
theorem qR (s:aN):0≤lQ s∧lQ s<4294967296:=by (have:∀x:Int,0≤IntKind.u32.wrap x∧IntKind.u32.wrap x<4294967296:=λx=>by rw[ms];omega);exact this _
theorem zR {v b:Nat} (hv:v<2^56) (hb:b<256):PV .u64 (OX .u64 (v:Int) 8) (wrap .u64 (b:Int))=((v*256+b:Nat):Int):=by (have e1:OX .u64 (v:Int) 8=((v*256:Nat):Int):=by show IntKind.u64.wrap ((v:Int)*256)=_;rw[jG (by omega)];omega);rw[e1,jG (by omega)];unfold PV;(have b1:(BitVec.ofInt IntKind.u64.bits ((v*256:Nat):Int)|||BitVec.ofInt IntKind.u64.bits (b:Int)).toNat=v*256+b:=by show(BitVec.ofInt 64 ((v*256:Nat):Int)|||BitVec.ofInt 64 (b:Int)).toNat=_;rw[BitVec.toNat_or,IG,IG];(have h1:((((v*256:Nat):Int))%((2^64:Nat):Int)).toNat=v*256:=by omega);(have h2:(((b:Int))%((2^64:Nat):Int)).toNat=b:=by omega);rw[h1,h2];have:=JV (b:=b) (i:=8) (by simpa using hb) v;rw[KN] at this;exact this.symm);rw[b1,jG (by omega)]
theorem yw (v:Nat) (k:Nat) (hk:k<8):P1 (v:Int) (k+1)=P1 ((v / 256:Nat):Int) k++[((v%256:Nat):Int)]:=by (have sh:∀(x s:Nat),s≤64→wrap .u8 (K_ .u64 (x:Int) (s:Int))=((x / 2^s%256:Nat):Int):=λx s hs=>by rw[Vg];unfold K_;(have e:min ((s:Int).toNat) (IntKind.u64.bits)=s:=by have:IntKind.u64.bits=64:=rfl;rw[this,Hq];omega);rw[e];(have:((x:Int)).fdiv (2^s)=((x / 2^s:Nat):Int):=by rw[show((2:Int)^s)=((2^s:Nat):Int) by simp];rw[Int.fdiv_eq_ediv_of_nonneg _ (Int.natCast_nonneg _)];rfl);rw[this];omega);unfold P1;rw[Jw,Im];congr 1;apply IJ;intro j hj;have hj:=IY.1 hj;rw[sh _ _ (by omega),sh _ _ (by omega),Nat.div_div_eq_div_mul];congr 2;rw[show(256:Nat)=2^8 by rfl,←Nat.pow_add];congr 2;omega;simp only[HX,IX];rw[sh _ _ (by omega)];congr 2;simp
theorem Be:∀(k v:Nat),k≤8→v<256^k→v<2^63→p_ (P1 (v:Int) k)=(v:Int)|0,v,_,h,_=>by (have:v=0:=by simpa using h);subst this;rfl|k+1,v,hk,h,h63=>by have ih:=Be k (v / 256) (by omega) (by rw[Nat.pow_succ] at h;omega) (by omega);rw[yw v k (by omega)];unfold p_ at ih⊢;rw[I9,ih];simp only[IE,List.foldl_nil];rw[zR (by omega) (by omega)];congr 1;omega
theorem nO (v:Int) (k:Nat):aT (P1 v k):=by intro b hb;obtain⟨j,_,rfl⟩:=H7.1 hb;exact lB _
def uZ (h:aD):Bool:=((((((decide (h.Left≥0))&&(decide (h.Left≤8)))&&(decide (h.Round≥0)))&&(decide (h.Round≤4611686018427387903)))&&(decide (h.Epoch≥0)))&&(decide (h.Epoch≤4611686018427387904)))
def qS (h:aD) (n:Nat):List Int:=[67,72,82,78]++[1,wrap .u8 h.Left]++P1 (n:Int) 2++P1 h.Round 8++P1 h.Epoch 8
def ou (cs:List (List Int)):List Int:=(cs.map λc=>P1 320 2++c).flatten
def WK (h:aD) (cs:List (List Int)):aN:=Qb ⟨1,0⟩ (qS h cs.length++ou cs)
def G7 (b:aV):List Int:=qS b.Header b.Cells.length++ou b.Cells++P1 (lQ (WK b.Header b.Cells)) 4
def nP (b:aV):List Int×Int:=bif !uZ b.Header then([],62) else bif decide ((b.Cells.length:Int)>256) then([],63) else bif b.Cells.all λc=>c.length==320 then(G7 b,0) else([],64)
theorem yx (h:aD) (n:Nat):(qS h n).length=24:=by simp[qS,ip]
def yy (_:Nat) (x:List Int) (c:List Int):Option (List Int):=bif c.length==320 then some (x++(P1 320 2++c)) else none
theorem sB:∀(cs:List (List Int)) (i:Nat) (x:List Int),iU yy i x cs=bif cs.all λc=>c.length==320 then some (x++ou cs) else none|[],i,x=>by simp[iU,ou]|c::cs,i,x=>by simp only[iU,yy,Li];cases hc:(c.length==320) with|false=>rfl|true=>simp only[Hn,ID];rw[sB cs];simp[ou]
theorem Cx (b:aV):mg b=some (nP b):=by unfold mg nu nP;simp only[aB];show(bif !uZ b.Header then _ else _)=_;cases hf: !uZ b.Header with|true=>rfl|false=>(have hf:uZ b.Header=true:=by simpa using hf);simp only[uZ,Hx,HB] at hf;obtain⟨⟨⟨⟨⟨f1,f2⟩,f3⟩,f4⟩,f5⟩,f6⟩:=hf;rw[Hm,Hm];cases hc:decide ((b.Cells.length:Int)>256) with|true=>rfl|false=>have hc:=HF hc;rw[Hm,Hm,wrap64 (x:=(b.Cells.length:Int)*322) (by omega),wrap64 (x:=24+(b.Cells.length:Int)*322) (by omega),wrap64 (x:=24+(b.Cells.length:Int)*322+4) (by omega)];(have g:P2 0 (24+(b.Cells.length:Int)*322+4)=true:=by unfold P2;rw[Ff];simp;omega);have e0:List.replicate (Int.toNat 0) (0:Int)=[]:=rfl;rw[g,Hn,e0,aW (by rw[cR];simp)];simp only[aB,HM];rw[aW (by rw[cR];simp)];simp only[aB,F9];rw[jG (x:=(b.Cells.length:Int)) (by omega),jG (x:=b.Header.Round) (by omega),jG (x:=b.Header.Epoch) (by omega)];rw[lO (z:=2) (k:=2) rfl (by omega) (by simp)];simp only[aB];rw[lO (z:=8) (k:=8) rfl (by omega) (by simp[ip])];simp only[aB];rw[lO (z:=8) (k:=8) rfl (by omega) (by simp[ip])];simp only[aB];have hd0:[67,72,82,78]++[1,wrap .u8 b.Header.Left]++P1 (b.Cells.length:Int) 2++P1 b.Header.Round 8++P1 b.Header.Epoch 8=qS b.Header b.Cells.length:=rfl;rw[hd0];have hhl:=yx b.Header b.Cells.length;rw[(mY (λ(i:Nat) (x:List Int)=>(x,(i:Int))) yy b.Cells (λi r x=>x.length=24+322*i) (λx=>Sum.inl x) (Sum.inr (([],64):List Int×Int)) ?_ ?_ (qS b.Header b.Cells.length) (by rw[hhl]) ?_).1];rw[sB];(cases hall:b.Cells.all λc=>c.length==320 with|false=>rfl|true=>(have hbl:∀cs:List (List Int),(cs.all λc=>c.length==320)=true→(ou cs).length=322*cs.length:=by intro cs;induction cs with|nil=>intro _;rfl|cons c cs ih=>intro h;simp only[Li,Hx,Jg] at h;have:=ih h.2;simp only[ou] at this;simp[ou,ip,this,h.1];omega);have hb:=hbl _ hall;simp only[Hn,aB];rw[zQ (by rw[Hu,hb,hhl];omega)];simp only[aB,fo];have hfr:=qR (WK b.Header b.Cells);show((ey _ (wrap .u64 (lQ (WK b.Header b.Cells))) 4).bind _)=_;rw[jG (by omega),lO (z:=4) (k:=4) rfl (by omega) (by rw[Hu,hb,hhl];omega)];rfl);intro i c r x hdr hi hget I;have hlt:decide ((i:Int)<(b.Cells.length:Int))=true:=Ho (by omega);(have hcd:b.Cells.getD i []=c:=by simp[List.getD,hget]);simp only[hlt,Hn,yy];rw[dn (i:=i) [] rfl hi,hcd];simp only[aB];(have hb:((c.length:Int) != 320)= !(c.length==320):=by rw[H3];simp;omega);rw[hb];(cases h3:(c.length==320) with|false=>exact⟨λ_=>rfl,λy hy=>(by cases hy)⟩|true=>(have h3:c.length=320:=by simpa using h3);refine⟨λh=>(by cases h),λy hy=>?_⟩;cases hy;simp only[HU,Hm];rw[lO (z:=2) (k:=2) rfl (by omega) (by omega)];simp only[aB];rw[aW (by rw[cR];simp[ip];omega),wrap64 (by omega)];refine⟨by simp,by simp[ip,I,h3];omega⟩);intro x I;have hlt:decide ((b.Cells.length:Int)<(b.Cells.length:Int))=false:=Hp (by omega);simp only[hlt,Hm];rfl
end Go.Proofs.YtobbmodjdkcdcaaGreatDoor
set_option maxRecDepth 20000
set_option maxHeartbeats 1000000
namespace Go.Proofs.YtobbmodjdkcdcaaGreatDoor
open Go Go.Sim
open Go.IntKind (wrap)
variable [Fu]
theorem iQ:∀(n:Nat) (p:List Int),p.length=n→n≤8→aT p→∃v:Nat,p_ p=v∧v<256^n|0,p,h,_,_=>by have:p=[]:=HQ h;subst this;exact⟨0,rfl,by simp⟩|n+1,p,h,hn,hb=>by (have hne:p≠[]:=by intro e;subst e;simp at h);have hp:p=p.dropLast++[p.getLast hne]:=(List.dropLast_concat_getLast hne).symm;obtain⟨v,h1,h2⟩:=iQ n p.dropLast (by simp[h]) (by omega) (λb hbm=>hb b (List.dropLast_subset p hbm));have hl:=hb _ (List.getLast_mem hne);obtain⟨b,hbn⟩:∃b:Nat,p.getLast hne=b:=⟨(p.getLast hne).toNat,by omega⟩;(have h56:v<2^56:=by have:256^n≤256^7:=KQ (by omega) (by omega);omega);refine⟨v*256+b,?_,by rw[Nat.pow_succ];omega⟩;rw[hp];unfold p_ at h1⊢;rw[I9,h1,hbn];simp only[IE,List.foldl_nil];exact zR h56 (by omega)
def SK (h:aD):Prop:=(0≤h.Left∧h.Left≤8)∧(0≤h.Round∧h.Round≤4611686018427387903)∧(0≤h.Epoch∧h.Epoch≤4611686018427387904)
def bY (i:Nat):Nat:=[4,1,1,2,8,8,2,320,4,1].getD i 0
theorem m6 {i:Nat} (h:i<10):1≤bY i∧bY i≤320∧idx [4,1,1,2,8,8,2,320,4,1] (i:Int)=some (bY i:Int):=by match i,h with|0,_=>exact⟨by decide,by decide,rfl⟩|1,_=>exact⟨by decide,by decide,rfl⟩|2,_=>exact⟨by decide,by decide,rfl⟩|3,_=>exact⟨by decide,by decide,rfl⟩|4,_=>exact⟨by decide,by decide,rfl⟩|5,_=>exact⟨by decide,by decide,rfl⟩|6,_=>exact⟨by decide,by decide,rfl⟩|7,_=>exact⟨by decide,by decide,rfl⟩|8,_=>exact⟨by decide,by decide,rfl⟩|9,_=>exact⟨by decide,by decide,rfl⟩
def Trans (i:Nat) (l:Int) (j l':Int):Prop:=(i=3→0≤l'∧l'≤256)∧(i=7→l'=l - 1)∧(i≠3→i≠7→l'=l)∧(i=5∨i=7→(l'=0∧j=8)∨(l'≠0∧j=6))∧(i≠5→i≠7→j=(i:Int)+1)∧i≠9
theorem Bf {f:be} {i:Nat} (hs:f.stage=i) (h:i<10) (hl:f.field.length=bY i) (hb:aT f.field) (hH:SK f.header) (hleft:0≤f.left∧f.left≤256):
   ∃r,cM f=some r∧r.2.field=f.field∧r.2.at_=f.at_∧(r.1=0→SK r.2.header∧Trans i f.left r.2.stage r.2.left):=by
 unfold cM
 have hsz:=m6 h
 have hl30:f.field.length<2^30:=by omega
 rw[wt hl30,zQ hl30]
 simp only[aB,fo]
 have hc:∀k:Nat,(((i:Nat):Int)==((k:Nat):Int))=decide (i=k):=λk=>by
   rw[H3];simp only[Jg,HB];omega
 rw[hs]
 have c0:(((i:Nat):Int)==0)=decide (i=0):=hc 0
 have c1:(((i:Nat):Int)==1)=decide (i=1):=hc 1
 have c2:(((i:Nat):Int)==2)=decide (i=2):=hc 2
 have c3:(((i:Nat):Int)==3)=decide (i=3):=hc 3
 have c4:(((i:Nat):Int)==4)=decide (i=4):=hc 4
 have c5:(((i:Nat):Int)==5)=decide (i=5):=hc 5
 have c6:(((i:Nat):Int)==6)=decide (i=6):=hc 6
 have c7:(((i:Nat):Int)==7)=decide (i=7):=hc 7
 have c8:(((i:Nat):Int)==8)=decide (i=8):=hc 8
 have c9:(((i:Nat):Int)==9)=decide (i=9):=hc 9
 rw[c0,c1,c2,c3,c4,c5,c6,c7,c8,c9]
 have hw1:wrap .i64 ((i:Int)+1)=(i:Int)+1:=wrap64 (by omega)
 rw[hw1]
 have fin:∀(l:Int) (hd:aD),i≠9→SK hd→(i=3→0≤l∧l≤256)→(i=7→l=f.left - 1)→(i≠3→i≠7→l=f.left)→i≠8→∃r:Int×be,(((bif (((i:Int)+1)==6)||(((i:Int)+1)==8) then
        bif l==0 then
         some 8
        else
         some 6
       else
        some ((i:Int)+1)
        :Option Int)).bind λx30=>
       some ((0:Int),(⟨f.field,f.at_,x30,l,hd,Qb f.sum f.field,f.err,f.place⟩:be)))=some r∧r.2.field=f.field∧r.2.at_=f.at_∧(r.1=0→SK r.2.header∧Trans i f.left r.2.stage r.2.left):=by
   intro l hd h9 hih h3 h7 hn h8
   by_cases hx:i=5∨i=7
   · have e:((((i:Int)+1)==6)||(((i:Int)+1)==8))=true:=by simp;omega
     rw[e,Hn]
     by_cases hz:l=0
     · have ez:(l==0)=true:=by simpa using hz
       rw[ez]
       exact⟨_,rfl,rfl,rfl,λ_=>⟨hih,h3,h7,hn,λ_=> .inl ⟨hz,rfl⟩,λa b=>by omega,h9⟩⟩
     · have ez:(l==0)=false:=by simpa using hz
       rw[ez]
       exact⟨_,rfl,rfl,rfl,λ_=>⟨hih,h3,h7,hn,λ_=> .inr ⟨hz,rfl⟩,λa b=>by omega,h9⟩⟩
   · have e:((((i:Int)+1)==6)||(((i:Int)+1)==8))=false:=by simp;omega
     rw[e]
     exact⟨_,rfl,rfl,rfl,λ_=>⟨hih,h3,h7,hn,λa=>absurd a hx,λ_ _=>rfl,h9⟩⟩
 have err:∀(z:Int×be),z.1≠0→z.2.field=f.field→z.2.at_=f.at_→∃r,(some z:Option (Int×be))=some r∧r.2.field=f.field∧r.2.at_=f.at_∧(r.1=0→SK r.2.header∧Trans i f.left r.2.stage r.2.left):=
   λz h1 h2 h3=>⟨z,rfl,h2,h3,λh=>absurd h h1⟩
 have D:∀k,i=k→decide (i=k)=true:=λk e=>Ho e
 have N:∀k,i≠k→decide (i=k)=false:=λk e=>Hp e
 have g0:1≤f.field.length:=by omega
 by_cases k8:i=8
 · rw[D 8 k8,Hn]
   cases p_ f.field != wrap .u64 (PV .u32 (OX .u32 f.sum.b 16) f.sum.a) with
   |true=>exact err _ (by simp) rfl rfl
   |false=>exact⟨_,rfl,rfl,rfl,λ_=>⟨hH,by omega,by omega,λ_ _=>rfl,by omega,λ_ _=>by rw[k8];rfl,by omega⟩⟩
 rw[N 8 k8,Hm]
 by_cases k0:i=0
 · rw[D 0 k0,Hn]
   cases (Qt f.field) != [67,72,82,78] with
   |true=>exact err _ (by simp) rfl rfl
   |false=>exact fin _ _ (by omega) hH (by omega) (by omega) (λ_ _=>rfl) k8
 rw[N 0 k0,Hm]
 by_cases k1:i=1
 · rw[D 1 k1,Hn,aJ (z:=0) (i:=0) rfl (by omega)]
   simp only[aB]
   cases (f.field.getD 0 0) != 1 with
   |true=>exact err _ (by simp) rfl rfl
   |false=>exact fin _ _ (by omega) hH (by omega) (by omega) (λ_ _=>rfl) k8
 rw[N 1 k1,Hm]
 by_cases k2:i=2
 · rw[D 2 k2,Hn,aJ (z:=0) (i:=0) rfl (by omega)]
   simp only[aB]
   have hg:=fG hb 0
   have hw:wrap .i64 (f.field.getD 0 0)=f.field.getD 0 0:=wrap64 (by omega)
   rw[hw]
   cases hx:decide ((({f.header with Left:=f.field.getD 0 0}:aD).Left)>8) with
   |true=>exact err _ (by simp) rfl rfl
   | false =>
     have hx:¬f.field.getD 0 0>8:=HF hx
     exact fin _ _ (by omega) ⟨⟨hg.1,by show f.field.getD 0 0≤8;omega⟩,hH.2.1,hH.2.2⟩ (by omega) (by omega) (λ_ _=>rfl) k8
 rw[N 2 k2,Hm]
 by_cases k3:i=3
 · rw[D 3 k3,Hn]
   obtain⟨v,hv,hv2⟩:=iQ 2 f.field (by rw[hl,k3];rfl) (by omega) hb
   rw[hv,wrap64 (by omega)]
   cases hx:decide ((v:Int)>256) with
   |true=>exact err _ (by simp) rfl rfl
   | false =>
     have hx:=HF hx
     exact fin _ _ (by omega) hH (λ_=>by omega) (by omega) (λa=>absurd k3 a) k8
 rw[N 3 k3,Hm]
 by_cases k4:i=4
 · rw[D 4 k4,Hn]
   obtain⟨v,hv,hv2⟩:=iQ 8 f.field (by rw[hl,k4];rfl) (by omega) hb
   rw[hv]
   cases hx:decide ((v:Int)>4611686018427387903) with
   |true=>exact err _ (by simp) rfl rfl
   | false =>
     have hx:=HF hx
     have hw:wrap .i64 (v:Int)=v:=wrap64 (by omega)
     rw[hw]
     exact fin _ _ (by omega) ⟨hH.1,⟨by show(0:Int)≤(v:Int);omega,by show(v:Int)≤_;omega⟩,hH.2.2⟩ (by omega) (by omega) (λ_ _=>rfl) k8
 rw[N 4 k4,Hm]
 by_cases k5:i=5
 · rw[D 5 k5,Hn]
   obtain⟨v,hv,hv2⟩:=iQ 8 f.field (by rw[hl,k5];rfl) (by omega) hb
   rw[hv]
   cases hx:decide ((v:Int)>4611686018427387904) with
   |true=>exact err _ (by simp) rfl rfl
   | false =>
     have hx:=HF hx
     have hw:wrap .i64 (v:Int)=v:=wrap64 (by omega)
     rw[hw]
     exact fin _ _ (by omega) ⟨hH.1,hH.2.1,⟨by show(0:Int)≤(v:Int);omega,by show(v:Int)≤_;omega⟩⟩ (by omega) (by omega) (λ_ _=>rfl) k8
 rw[N 5 k5,Hm]
 by_cases k6:i=6
 · rw[D 6 k6,Hn]
   cases p_ f.field != 320 with
   |true=>exact err _ (by simp) rfl rfl
   |false=>exact fin _ _ (by omega) hH (by omega) (by omega) (λ_ _=>rfl) k8
 rw[N 6 k6,Hm]
 by_cases k7:i=7
 · rw[D 7 k7,Hn]
   exact fin _ _ (by omega) hH (by omega) (λ_=>wrap64 (by omega)) (λ_ a=>absurd k7 a) k8
 rw[N 7 k7,Hm]
 have k9:i=9:=by omega
 rw[D 9 k9,Hn]
 exact err _ (by simp) rfl rfl
end Go.Proofs.YtobbmodjdkcdcaaGreatDoor
set_option maxRecDepth 20000
set_option maxHeartbeats 1000000
namespace Go.Proofs.YtobbmodjdkcdcaaGreatDoor
open Go Go.Sim
open Go.IntKind (wrap)
variable [Fu]
def Q6 (cs:List (List Int)):Prop:=∀x∈cs,x.length=320∧aT x
def nQ (j:Nat) (l:Int) (c:Nat):Prop:=(j≤3→c=0∧l=0)∧(j=4∨j=5→c=0∧0≤l∧l≤256)∧(j=6∨j=7→1≤l∧(c:Int)+l≤256)∧(8≤j→c≤256∧l=0)
theorem nQ.left {j c:Nat} {l:Int} (h:nQ j l c):0≤l∧l≤256:=by obtain⟨h1,h2,h3,h4⟩:=h;by_cases a:j≤3;have:=h1 a;omega;by_cases b:j=4∨j=5;have:=h2 b;omega;by_cases d:j=6∨j=7;have:=h3 d;omega;have:=h4 (by omega);omega
theorem nQ.next {i c:Nat} {l j' l':Int} (hi:i<10) (h:nQ i l c) (t:Trans i l j' l'):∃j:Nat,j<10∧j'=j∧nQ j l' (if i=7 then c+1 else c):=by obtain⟨h1,h2,h3,h4⟩:=h;obtain⟨t3,t7,tn,ts,tj,t9⟩:=t;match i,hi with|0,_=>exact⟨1,by omega,by simpa using tj (by omega) (by omega),λ_=>by have:=h1 (by omega);have:=tn (by omega) (by omega);simp;omega,by omega,by omega,by omega⟩|1,_=>exact⟨2,by omega,by simpa using tj (by omega) (by omega),λ_=>by have:=h1 (by omega);have:=tn (by omega) (by omega);simp;omega,by omega,by omega,by omega⟩|2,_=>exact⟨3,by omega,by simpa using tj (by omega) (by omega),λ_=>by have:=h1 (by omega);have:=tn (by omega) (by omega);simp;omega,by omega,by omega,by omega⟩|3,_=>exact⟨4,by omega,by simpa using tj (by omega) (by omega),by omega,λ_=>by have:=h1 (by omega);have:=t3 rfl;simp;omega,by omega,by omega⟩|4,_=>exact⟨5,by omega,by simpa using tj (by omega) (by omega),by omega,λ_=>by have:=h2 (by omega);have:=tn (by omega) (by omega);simp;omega,by omega,by omega⟩|5,_=>have:=h2 (by omega);have:=tn (by omega) (by omega);rcases ts (by omega) with⟨a,b⟩|⟨a,b⟩;exact⟨8,by omega,b,by omega,by omega,by omega,λ_=>by simp;omega⟩;exact⟨6,by omega,b,by omega,by omega,λ_=>by simp;omega,by omega⟩|6,_=>exact⟨7,by omega,by simpa using tj (by omega) (by omega),by omega,by omega,λ_=>by have:=h3 (by omega);have:=tn (by omega) (by omega);simp;omega,by omega⟩|7,_=>have:=h3 (by omega);have:=t7 rfl;rcases ts (by omega) with⟨a,b⟩|⟨a,b⟩;exact⟨8,by omega,b,by omega,by omega,by omega,λ_=>by simp;omega⟩;exact⟨6,by omega,b,by omega,by omega,λ_=>by simp;omega,by omega⟩|8,_=>exact⟨9,by omega,by simpa using tj (by omega) (by omega),by omega,by omega,by omega,λ_=>by have:=h4 (by omega);have:=tn (by omega) (by omega);simp;omega⟩|9,_=>exact absurd rfl t9
structure Zc (n:Nat) (r:(List (List Int))×(List Int)×Int×Int×Int×aD×aN×Int×Int):Prop where
 ok:r.2.2.2.2.2.2.2.1=0→SK r.2.2.2.2.2.1∧r.1.length≤256∧Q6 r.1∧0≤r.2.2.1∧r.2.2.1≤n
 bad:r.2.2.2.2.2.2.2.1≠0→0≤r.2.2.2.2.2.2.2.2∧r.2.2.2.2.2.2.2.2≤n
theorem DX {raw:List Int} (hl:raw.length<2^30) (hb:aT raw): ∃r,eV ⟨[],0,0,0,⟨0,0,0⟩,⟨1,0⟩,0,0⟩ raw=some r∧(r.2.1=0→SK r.2.2.header∧r.1.length≤256∧Q6 r.1∧0≤r.2.2.at_∧r.2.2.at_≤raw.length)∧(r.2.1≠0→0≤r.2.2.place∧r.2.2.place≤raw.length)∧r.2.2.err=r.2.1:=by unfold eV;obtain⟨r,hr,hq⟩:=Da (S:=((List Int)×(List (List Int))×(List Int)×Int×Int×Int×aD×aN×Int×Int)) (R:=((List (List Int))×(List Int)×Int×Int×Int×aD×aN×Int×Int)) (P:=λs=>aT s.1∧Q6 s.2.1∧s.2.2.1=[]∧s.2.2.2.1+(s.1.length:Int)=(raw.length:Int)∧0≤s.2.2.2.1∧s.2.2.2.2.2.2.2.2.1=0∧∃j:Nat,j<10∧s.2.2.2.2.1=j∧SK s.2.2.2.2.2.2.1∧nQ j s.2.2.2.2.2.1 s.2.1.length) (Q:=Zc raw.length) (λs=>s.1.length) (step:=(λ(x324,x326,x328,x329,x330,x331,x332,x333,x334,x335)=>bif x334==0 then (db (⟨x328,x329,x330,x331,x332,x333,x334,x335⟩:be)).bind λy394=>bif decide ((wrap .i64 (y394 - (x328.length:Int)))>(x324.length:Int)) then (app x328 x324).bind λz396=>some (.done (x326,z396,wrap .i64 (x329+(x324.length:Int)),x330,x331,x332,x333,x334,x335)) else (sub x324 0 (wrap .i64 (y394 - (x328.length:Int)))).bind λx403=>(app x328 x403).bind λz405=>(sub x324 (wrap .i64 (y394 - (x328.length:Int))) (x324.length:Int)).bind λx409=>((bif x330==7 then (cW z405).bind λy430=>(app x326 [y430]).bind λz433=>some z433 else some x326 :Option (List (List Int)))).bind λx418=>(cM (⟨z405,wrap .i64 (x329+(wrap .i64 (y394 - (x328.length:Int)))),x330,x331,x332,x333,x334,x335⟩:be)).bind λy422=>bif y422.1 != 0 then some (.done (x418,y422.2.field,y422.2.at_,y422.2.stage,y422.2.left,y422.2.header,y422.2.sum,y422.1,wrap .i64 (y422.2.at_ - (y422.2.field.length:Int)))) else bif decide ((0:Int)≤0∧(0:Int)≤0∧(0:Int)≤(y422.2.field.length:Int)) then some (.next (x409,x418,List.take (Int.toNat 0) y422.2.field,y422.2.at_,y422.2.stage,y422.2.left,y422.2.header,y422.2.sum,y422.1,y422.2.place)) else none else some (.done (x326,x328,x329,x330,x331,x332,x333,x334,x335)):_→Option (Qp _ _))) (s:=(raw,[],[],0,0,0,⟨0,0,0⟩,⟨1,0⟩,0,0)) (λs hs=>by obtain⟨piece,cells,field,at_,stage,left,header,sum,err,place⟩:=s;obtain⟨p1,p2,p3,p4,p5,p6,j,hj,p7,p8,p9⟩:=hs;simp only at p1 p2 p3 p4 p5 p6 p7 p8 p9;subst p3;subst p6;subst p7;obtain⟨z1,z2,z3⟩:=m6 hj;have hL:=p9.left;(have hc256:cells.length≤256:=by obtain⟨q1,q2,q3,q4⟩:=p9;by_cases a:j≤3;have:=q1 a;omega;by_cases b:j=4∨j=5;have:=q2 b;omega;by_cases d:j=6∨j=7;have:=q3 d;omega;have:=q4 (by omega);omega);(have hsize:db (⟨[],at_,(j:Int),left,header,sum,0,place⟩:be)=some (bY j:Int):=by unfold db;simp only;rw[z3];rfl);have e00:((0:Int)==0)=true:=rfl;simp only[e00,Hn];rw[hsize];simp only[aB,H1];(have e0:∀m:Int,m - ((0:Nat):Int)=m:=λm=>by simp);have en:wrap .i64 (bY j:Int)=(bY j:Int):=wrap64 (by omega);simp only[e0,en];cases hc:decide ((bY j:Int)>(piece.length:Int)) with|true=>left;simp only[Hn];rw[aW (by rw[cR];simp;omega)];refine⟨_,rfl,λ_=>⟨p8,hc256,p2,?_,?_⟩,λh=>absurd rfl h⟩;show 0≤wrap .i64 (at_+(piece.length:Int));rw[wrap64 (by omega)];omega;show wrap .i64 (at_+(piece.length:Int))≤_;rw[wrap64 (by omega)];omega|false=>have hc':=HF hc;simp only[Hm];rw[nK (h:=(bY j:Int)) (j:=bY j) rfl (by omega)];simp only[aB];(have tl:(piece.take (bY j)).length=bY j:=by rw[HN];omega);have tb:aT (piece.take (bY j)):=dN p1 _;rw[aW (by rw[cR];simp;omega)];simp only[aB,HM];rw[pt (l:=(bY j:Int)) (i:=bY j) rfl (by omega)];simp only[aB];generalize piece.take (bY j)=w at*;have hat:wrap .i64 (at_+(bY j:Int))=at_+(bY j:Int):=wrap64 (by omega);rw[hat];(have ecl:(bif (j:Int)==7 then(cW w).bind λy430=>(app cells [y430]).bind λz433=>some z433 else some cells:Option (List (List Int)))=some (if j=7 then cells++[w] else cells):=by by_cases h7:j=7;(have:((j:Int)==7)=true:=by simp;omega);rw[this,Hn,tL (by omega),Il h7];simp only[aB];rw[aW (by rw[cR];simp;omega)];rfl;(have:((j:Int)==7)=false:=by simp;omega);rw[this,Hm,Ic h7]);rw[ecl];simp only[aB];obtain⟨r,hr,hrf,hra,hrs⟩:=Bf (f:=⟨w,at_+(bY j:Int),(j:Int),left,header,sum,0,place⟩) rfl hj (by simp only;omega) tb p8 hL;rw[hr];simp only[aB];simp only at hrf hra hrs;cases hr1:(r.1 != 0) with| true =>(have hr1:r.1≠0:=by simpa using hr1);left;simp only[Hn];refine⟨_,rfl,λh=>absurd h hr1,λ_=>?_⟩;show 0≤wrap .i64 (r.2.at_ - (r.2.field.length:Int))∧wrap .i64 (r.2.at_ - (r.2.field.length:Int))≤_;rw[hra,hrf,tl,wrap64 (by omega)];omega| false =>(have hr0:r.1=0:=by simpa using hr1);right;have g:decide ((0:Int)≤0∧(0:Int)≤0∧(0:Int)≤(r.2.field.length:Int))=true:=Ho (by omega);obtain⟨i1,i2⟩:=hrs hr0;obtain⟨j',k1,k2,k3⟩:=nQ.next hj p9 i2;simp only[Hm,g,Hn];refine⟨_,rfl,⟨fR p1 _,?_,rfl,?_,?_,hr0,j',k1,k2,i1,?_⟩,?_⟩;show Q6 (if j=7 then cells++[w] else cells);split;rename_i h7;intro x hx;rcases HO.1 hx with hx|hx;exact p2 x hx;have:=Iv.1 hx;subst this;exact⟨by rw[tl,h7];rfl,tb⟩;exact p2;show r.2.at_+((piece.drop (bY j)).length:Int)=_;rw[hra,HW];omega;show 0≤r.2.at_;rw[hra];omega;show nQ j' r.2.left (if j=7 then cells++[w] else cells).length;(have:(if j=7 then cells++[w] else cells).length=(if j=7 then cells.length+1 else cells.length):=by split<;>simp);rw[this];exact k3;show(piece.drop (bY j)).length<piece.length;rw[HW];omega) ⟨hb,λx hx=>(by cases hx),rfl,by simp,by simp,rfl,0,by omega,rfl,⟨by simp,by simp,by simp⟩,λ_=>⟨rfl,rfl⟩,by omega,by omega,by omega⟩;rw[hr];obtain⟨q1,q2⟩:=hq;exact⟨_,rfl,q1,q2,rfl⟩
theorem uu {raw:List Int} (hl:raw.length<2^30) (hb:aT raw):∃r,iu raw=some r∧(r.2.2=0→SK r.1.Header∧r.1.Cells.length≤256∧Q6 r.1.Cells)∧0≤r.2.1∧r.2.1≤raw.length:=by unfold iu jd;simp only[aB];obtain⟨r,hr,h0,h1,he⟩:=DX hl hb;rw[hr];simp only[aB];cases hx:r.2.1==0 with|false=>(have hx:r.2.1≠0:=by simpa using hx);exact⟨_,rfl,λh=>absurd h hx,h1 hx⟩|true=>(have hx:r.2.1=0:=by simpa using hx);obtain⟨a1,a2,a3,a4,a5⟩:=h0 hx;simp only[Hn];unfold gy;simp only[he,hx,HJ,Hm];cases decide (r.2.2.stage<9) with|true=>refine⟨_,rfl,λh=>?_,a4,a5⟩;simp at h|false=>exact⟨_,rfl,λ_=>⟨a1,a2,a3⟩,by simp,by simp⟩
end Go.Proofs.YtobbmodjdkcdcaaGreatDoor
