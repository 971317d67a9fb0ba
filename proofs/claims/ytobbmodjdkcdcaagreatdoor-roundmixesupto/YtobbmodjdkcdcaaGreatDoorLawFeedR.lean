import Derived.Test.YtobbmodjdkcdcaaGreatDoorLawFeed
set_option autoImplicit true
set_option relaxedAutoImplicit true
set_option linter.all false
set_option maxRecDepth 20000
set_option maxHeartbeats 1000000
namespace Go.Proofs.YtobbmodjdkcdcaaGreatDoor
open Go Go.Sim
open Go.IntKind (wrap)
variable [Fu]
theorem nL {v z:Int} {k:Nat} (hz:z=k) (hk:k≤8):dc v z=some (P1 v k):=by subst hz;unfold dc;rw[wrap64 (x:=(k:Int) - 1) (by omega)];rw[aY (s0:=([],(k:Int) - 1)) (r:=P1 v k) (λi=>((List.range i).map (λj=>wrap .u8 (K_ .i64 v ((8*(k - 1 - j):Nat):Int))),(k:Int) - 1 - (i:Int))) 0 k (HH _) ?_ ?_ ?_];rfl;intro i _ hi;have h1:decide ((k:Int) - 1 - (i:Int)≥0)=true:=Ho (by omega);(have e:(k:Int) - 1 - (i:Int)=((k - 1 - i:Nat):Int):=by omega);(have h3:wrap .i64 (8*((k:Int) - 1 - (i:Int)))=((8*(k - 1 - i):Nat):Int):=by rw[wrap64 (by omega)];omega);have h2:decide (0≤((8*(k - 1 - i):Nat):Int))=true:=Ho (by omega);simp only[h1,h3,h2,Hn];rw[aW (by rw[cR];simp;omega)];simp only[aB];rw[de (λj=>wrap .u8 (K_ .i64 v ((8*(k - 1 - j):Nat):Int))),wrap64 (by omega)];congr 3;omega;have h1:decide ((k:Int) - 1 - (k:Int)≥0)=false:=Hp (by omega);simp only[h1,Hm];rfl;simp
def sA (s:aN):Prop:=(0≤s.a∧s.a<65521)∧(0≤s.b∧s.b<65521)
theorem wo {x:Int} (h:0≤x):0≤Int.tmod x 65521∧Int.tmod x 65521<65521:=by rw[Int.tmod_eq_emod_of_nonneg h];omega
theorem A8 {s:aN} {b:Int} (hs:sA s) (hb:0≤b∧b≤255):yv s b=⟨Int.tmod (s.a+b) 65521,Int.tmod (s.b+Int.tmod (s.a+b) 65521) 65521⟩∧sA (yv s b):=by obtain⟨h1,h2⟩:=hs;have r1:=wo (x:=s.a+b) (by omega);have r2:=wo (x:=s.b+Int.tmod (s.a+b) 65521) (by omega);(have w:∀x:Int,0≤x∧x<4294967296→wrap .u32 x=x:=λx hx=>by rw[ms];omega);(have e:yv s b=⟨Int.tmod (s.a+b) 65521,Int.tmod (s.b+Int.tmod (s.a+b) 65521) 65521⟩:=by unfold yv;simp only[w b (by omega),w (s.a+b) (by omega),w (s.b+Int.tmod (s.a+b) 65521) (by omega)]);exact⟨e,by rw[e];exact⟨r1,r2⟩⟩
theorem A9:∀{p:List Int} {s:aN},sA s→aT p→sA (Qb s p)|[],s,hs,_=>hs|b::p,s,hs,hb=>A9 (p:=p) (A8 hs (hb b (by simp))).2 (λx hx=>hb x (by simp[hx]))
theorem EQ {s:aN} (hs:sA s):lQ s=s.b*65536+s.a:=by obtain⟨⟨a0,a1⟩,⟨b0,b1⟩⟩:=hs;obtain⟨a,b⟩:=s;simp only at a0 a1 b0 b1;obtain⟨x,rfl⟩:∃x:Nat,a=x:=⟨a.toNat,by omega⟩;obtain⟨y,rfl⟩:∃y:Nat,b=y:=⟨b.toNat,by omega⟩;unfold lQ;(have e1:OX .u32 (y:Int) 16=((y*65536:Nat):Int):=by show IntKind.u32.wrap ((y:Int)*65536)=_;rw[ms];omega);simp only;rw[e1];unfold PV;(have b1:(BitVec.ofInt IntKind.u32.bits ((y*65536:Nat):Int)|||BitVec.ofInt IntKind.u32.bits (x:Int)).toNat=y*65536+x:=by show(BitVec.ofInt 32 ((y*65536:Nat):Int)|||BitVec.ofInt 32 (x:Int)).toNat=_;rw[BitVec.toNat_or,IG,IG];(have h1:((((y*65536:Nat):Int))%((2^32:Nat):Int)).toNat=y*65536:=by omega);(have h2:(((x:Int))%((2^32:Nat):Int)).toNat=x:=by omega);rw[h1,h2];have:=JV (b:=x) (i:=16) (by omega) y;rw[KN] at this;exact this.symm);rw[b1,ms];omega
def PJ (p:List Int):aN:=Qb ⟨1,0⟩ p
theorem wq {p:List Int} (hb:aT p):sA (PJ p):=A9 ⟨⟨by decide,by decide⟩,⟨by decide,by decide⟩⟩ hb
theorem DU (p:List Int) (b:Int):PJ (p++[b])=yv (PJ p) b:=by simp[PJ,Qb]
theorem Ba {p:List Int} (hb:aT p) (hl:p.length<2^30):fJ p=some (P1 (lQ (PJ p)) 4):=by unfold fJ;have hv:=wq hb;rw[aY (s0:=(1,0,0)) (r:=((PJ p).a,(PJ p).b)) (λi=>((PJ (p.take i)).a,(PJ (p.take i)).b,(i:Int))) 0 p.length (HH _) ?_ ?_ rfl];simp only[aB];obtain⟨⟨a0,a1⟩,⟨b0,b1⟩⟩:=hv;rw[wrap64 (x:=(PJ p).b*65536) (by omega),wrap64 (by omega),nL (z:=4) (k:=4) rfl (by omega),EQ ⟨⟨a0,a1⟩,⟨b0,b1⟩⟩];rfl;intro i _ hi;have h1:decide ((i:Int)<(p.length:Int))=true:=Ho (by omega);simp only[h1,Hn];rw[aJ rfl hi];have hg:=fG hb i;have c:=wq (dN hb i);(have e:p.take (i+1)=p.take i++[p.getD i 0]:=by rw[HA hi];simp[hi]);rw[e,DU,(A8 c hg).1];obtain⟨⟨a0,a1⟩,⟨b0,b1⟩⟩:=c;have r1:=wo (x:=(PJ (p.take i)).a+p.getD i 0) (by omega);simp only[aB];rw[wrap64 (x:=p.getD i 0) (by omega),wrap64 (x:=(PJ (p.take i)).a+p.getD i 0) (by omega),wrap64 (x:=(PJ (p.take i)).b+_) (by omega),wrap64 (by omega)];rfl;have h1:decide ((p.length:Int)<(p.length:Int))=false:=Hp (by omega);simp only[h1,Hm,HY]
theorem F7 (p:List Int):iL p=fJ p:=rfl
theorem ER (h:aD):((((((decide (h.Left<0))||(decide (h.Left>8)))||(decide (h.Round<0)))||(decide (h.Round≥4611686018427387904)))||(decide (h.Epoch<0)))||(decide (h.Epoch>4611686018427387904)))= !uZ h:=by unfold uZ;rw[H3];simp only[IZ,HB,IF,KJ,Hy];omega
theorem Cv:∀cs:List (List Int),(cs.all λc=>c.length==320)=true→(ou cs).length=322*cs.length:=by intro cs;induction cs with|nil=>intro _;rfl|cons c cs ih=>intro h;simp only[Li,Hx,Jg] at h;have:=ih h.2;simp only[ou] at this;simp[ou,ip,this,h.1];omega
theorem pY {p q:List Int} (hp:aT p) (hq:aT q):aT (p++q):=λb h=>(HO.1 h).elim (hp b) (hq b)
theorem Bb (h:aD) (n:Nat):aT (qS h n):=by unfold qS;refine pY (pY (pY (pY (λb hb=>?_) (λb hb=>?_)) (nO _ _)) (nO _ _)) (nO _ _);simp only[H2,KK,or_false] at hb;omega;simp only[H2,KK,or_false] at hb;rcases hb with rfl|rfl;omega;exact lB _
theorem Bc {cs:List (List Int)} (hb:∀c∈cs,aT c):aT (ou cs):=by intro b h;simp only[ou,List.mem_flatten,H7] at h;obtain⟨l,⟨c,hc,rfl⟩,hl⟩:=h;rcases HO.1 hl with h1|h1;exact nO _ _ b h1;exact hb c hc b h1
theorem ES (b:aV) (hb:∀c∈b.Cells,aT c):iM b=some (nP b):=by unfold iM nP;rw[ER];cases hf: !uZ b.Header with|true=>rfl|false=>rw[Hm,Hm];cases hc:decide ((b.Cells.length:Int)>256) with|true=>rfl|false=>have hc:=HF hc;rw[Hm,Hm,nL (z:=2) (k:=2) rfl (by omega)];simp only[aB];rw[aW (by rw[cR];simp[ip]),nL (z:=8) (k:=8) rfl (by omega)];simp only[aB];rw[aW (by rw[cR];simp[ip]),nL (z:=8) (k:=8) rfl (by omega)];simp only[aB];rw[aW (by rw[cR];simp[ip])];simp only[aB];have hd0:[67,72,82,78,1,wrap .u8 b.Header.Left]++P1 (b.Cells.length:Int) 2++P1 b.Header.Round 8++P1 b.Header.Epoch 8=qS b.Header b.Cells.length:=rfl;rw[hd0];have hhl:=yx b.Header b.Cells.length;rw[(mY (λ(i:Nat) (x:List Int)=>(x,(i:Int))) yy b.Cells (λi r x=>x.length=24+322*i) (λx=>Sum.inl x) (Sum.inr (([],64):List Int×Int)) ?_ ?_ (qS b.Header b.Cells.length) (by rw[hhl]) ?_).1];rw[sB];(cases hall:b.Cells.all λc=>c.length==320 with|false=>rfl|true=>have hbl:=Cv _ hall;simp only[Hn,aB];(have hby:aT (qS b.Header b.Cells.length++ou b.Cells):=λx hx=>by rcases HO.1 hx with h1|h1;exact Bb _ _ x h1;exact Bc hb x h1);rw[F7,Ba hby (by rw[Hu,hbl,hhl];omega)];simp only[aB];rw[aW (by rw[cR,Hu,hbl,hhl,ip];omega)];rfl);intro i c r x hdr hi hget I;have hlt:decide ((i:Int)<(b.Cells.length:Int))=true:=Ho (by omega);(have hcd:b.Cells.getD i []=c:=by simp[List.getD,hget]);simp only[hlt,Hn,yy];rw[dn (i:=i) [] rfl hi,hcd];simp only[aB];(have hb:((c.length:Int) != 320)= !(c.length==320):=by rw[H3];simp;omega);rw[hb];(cases h3:(c.length==320) with|false=>exact⟨λ_=>rfl,λy hy=>(by cases hy)⟩|true=>(have h3:c.length=320:=by simpa using h3);refine⟨λh=>(by cases h),λy hy=>?_⟩;cases hy;simp only[HU,Hm];rw[nL (z:=2) (k:=2) rfl (by omega)];simp only[aB];rw[aW (by rw[cR];simp[ip];omega)];simp only[aB];rw[aW (by rw[cR];simp[ip];omega),wrap64 (by omega)];refine⟨by simp,by simp[ip,I,h3];omega⟩);intro x I;have hlt:decide ((b.Cells.length:Int)<(b.Cells.length:Int))=false:=Hp (by omega);simp only[hlt,Hm];rfl
theorem yt {p:List Int} {b:Int} (hp:p.length≤6∨p_ p<2^55) (hb:aT p) (h:0≤b∧b≤255) (hl:p.length≤7):p_ (p++[b])=p_ p*256+b:=by obtain⟨v,h1,h2⟩:=iQ p.length p rfl (by omega) hb;(have h56:v<2^56:=by have:256^p.length≤256^7:=KQ (by omega) (by omega);omega);obtain⟨c,rfl⟩:∃c:Nat,b=c:=⟨b.toNat,by omega⟩;(have e:p_ (p++[(c:Int)])=PV .u64 (OX .u64 (p_ p) 8) (wrap .u64 (c:Int)):=by unfold p_;rw[I9];rfl);rw[e,h1,zR h56 (by omega)];omega
theorem tf {p:List Int} (hb:aT p) (hl:p.length≤8):0≤p_ p∧p_ p<((256^p.length:Nat):Int):=by obtain⟨v,h1,h2⟩:=iQ p.length p rfl hl hb;omega
def nM (w:List Int):Int:=bif decide (w.length=8)&&decide (p_ (w.take 7)≥36028797018963968) then -1 else p_ w
theorem nN {raw:List Int} {z y:Int} {a k:Nat} (hz:z=a) (hy:y=k) (hk:k≤8) (hk0:1≤k) (hl:a+k≤raw.length) (h30:raw.length<2^30) (hb:aT raw):cj raw z y=some (nM ((raw.drop a).take k)):=by
 subst hz hy
 have hwl:((raw.drop a).take k).length=k:=by simp;omega
 have hwb:aT ((raw.drop a).take k):=dN (fR hb a) k
 have hat:∀i,i<k→raw.getD (a+i) 0=((raw.drop a).take k).getD i 0:=λi hi=>by
  simp[List.getD,Iw,H5,hi]
 generalize (raw.drop a).take k=w at*
 have V:=λi (hi:i≤k)=>tf (p:=w.take i) (dN hwb i) (by simp;omega)
 have tl:∀i,i≤k→(w.take i).length=i:=λi hi=>by simp;omega
 have step:∀i,i<k→p_ (w.take i)<2^55→p_ (w.take (i+1))=p_ (w.take i)*256+w.getD i 0:=λi hi h55=>by
  have e:w.take (i+1)=w.take i++[w.getD i 0]:=by rw[HA (by omega)];simp[hwl,hi]
  rw[e]
  exact yt (.inr h55) (dN hwb i) (fG hwb i) (by rw[tl i (by omega)];omega)
 have small:∀i,i≤6→i≤k→p_ (w.take i)<2^55:=λi h6 hi=>by
  have:=(V i hi).2
  rw[tl i hi] at this
  have h2:256^i≤256^6:=KQ (by omega) h6
  omega
 unfold cj
 have hend:wrap .i64 ((a:Int)+(k:Int))=(a:Int)+(k:Int):=wrap64 (by omega)
 rw[hend]
 have nx : ∀ i, i < k → p_ (w.take i) < 2 ^ 55 → (bif decide (((a : Int) + (i : Int)) < (a : Int) + (k : Int)) then
      bif decide (p_ (w.take i)≥36028797018963968) then
       some (.done (.inr (-1)))
      else
       (idx raw ((a:Int)+(i:Int))).bind λx47=>
       some (.next (wrap .i64 ((wrap .i64 (p_ (w.take i)*256))+(wrap .i64 x47)),wrap .i64 ((a:Int)+(i:Int)+1)))
    else
      some (.done (.inl (p_ (w.take i)))) : Option (Qp (Int × Int) (Int ⊕ Int))) = some (.next (p_ (w.take (i + 1)), (a : Int) + ((i + 1 : Nat) : Int))) := λi hi h55 => by
  have h1:decide (((a:Int)+(i:Int))<(a:Int)+(k:Int))=true:=Ho (by omega)
  have h2:decide (p_ (w.take i)≥36028797018963968)=false:=Hp (by omega)
  rw[h1,h2,Hn,Hm,aJ (i:=a+i) (by omega) (by omega),hat i hi]
  simp only[aB]
  have hg:=fG hwb i
  have hv:=(V i (by omega)).1
  rw[wrap64 (x:=p_ (w.take i)*256) (by omega),wrap64 (x:=w.getD i 0) (by omega),wrap64 (x:=p_ (w.take i)*256+_) (by omega),wrap64 (by omega),step i hi h55]
  congr 3
 cases hbad:decide (w.length=8)&&decide (p_ (w.take 7)≥36028797018963968) with
 |false=>
  have all55:∀i,i<k→p_ (w.take i)<2^55:=λi hi=>by
    by_cases h6:i≤6
    · exact small i h6 (by omega)
    · have:i=7:=by omega
      subst this
      have hk8:w.length=8:=by omega
      rw[Ho hk8,ID] at hbad
      have:=HF hbad
      omega
  rw[aY (s0:=(0,(a:Int))) (r:=Sum.inl (p_ w)) (λi=>(p_ (w.take i),(a:Int)+(i:Int))) 0 k (HH _) (λi _ hi=>nx i hi (all55 i hi)) ?_ ?_]
  · simp only[aB,nM,hbad,Hm]
  · have h1:decide (((a:Int)+(k:Int))<(a:Int)+(k:Int))=false:=Hp (by omega)
    have:w.take k=w:=HD (by omega)
    simp only[h1,Hm,this]
  · simp[p_]
 |true=>
  rw[Hx,HB,HB] at hbad
  obtain⟨h8,h7⟩:=hbad
  have hk8:k=8:=by omega
  rw[aY (s0:=(0,(a:Int))) (r:=Sum.inr (-1)) (λi=>(p_ (w.take i),(a:Int)+(i:Int))) 0 7 (HH _) (λi _ hi=>nx i (by omega) (small i (by omega) (by omega))) ?_ ?_]
  · simp only[aB,nM,h8,Iu,ID,Ho h7,Hn]
  · have h1:decide (((a:Int)+((7:Nat):Int))<(a:Int)+(k:Int))=true:=Ho (by omega)
    simp only[h1,Hn,Ho h7]
  · simp[p_]
end Go.Proofs.YtobbmodjdkcdcaaGreatDoor
