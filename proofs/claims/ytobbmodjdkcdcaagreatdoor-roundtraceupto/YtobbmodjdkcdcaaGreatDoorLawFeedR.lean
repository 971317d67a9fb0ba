import Derived.Test.YtobbmodjdkcdcaaGreatDoorLawFeed
set_option linter.all false
set_option maxRecDepth 20000
set_option maxHeartbeats 1000000
namespace Go.Proofs.YtobbmodjdkcdcaaGreatDoor
open Go Go.Sim
variable [Fu]
theorem lS {v z:Int} {k:Nat} (hz:z=k) (hk:k≤8):cr v z=some (numS v k):=by subst hz;unfold cr;rw[wrap64 (x:=(k:Int) - 1) (by omega)];rw[aP (s0:=([],(k:Int) - 1)) (r:=numS v k) (λi=>((List.range i).map (λj=>IntKind.wrap .u8 (shrI .i64 v ((8*(k - 1 - j):Nat):Int))),(k:Int) - 1 - (i:Int))) 0 k (Gi _) ?_ ?_ ?_];rfl;intro i _ hi;have h1:decide ((k:Int) - 1 - (i:Int)≥0)=true:=FK (by omega);(have e:(k:Int) - 1 - (i:Int)=((k - 1 - i:Nat):Int):=by omega);(have h3:IntKind.wrap .i64 (8*((k:Int) - 1 - (i:Int)))=((8*(k - 1 - i):Nat):Int):=by rw[wrap64 (by omega)];omega);have h2:decide (0≤((8*(k - 1 - i):Nat):Int))=true:=FK (by omega);simp only[h1,h3,h2,FJ];rw[aQ (by rw[dq];simp;omega)];simp only[ab];rw[fj (λj=>IntKind.wrap .u8 (shrI .i64 v ((8*(k - 1 - j):Nat):Int))),wrap64 (by omega)];congr 3;omega;have h1:decide ((k:Int) - 1 - (k:Int)≥0)=false:=FL (by omega);simp only[h1,FI];rfl;simp
def qg (s:an):Prop:=(0≤s.a∧s.a<65521)∧(0≤s.b∧s.b<65521)
theorem uf {x:Int} (h:0≤x):0≤Int.tmod x 65521∧Int.tmod x 65521<65521:=by rw[Int.tmod_eq_emod_of_nonneg h];omega
theorem zb {s:an} {b:Int} (hs:qg s) (hb:0≤b∧b≤255):wt s b=⟨Int.tmod (s.a+b) 65521,Int.tmod (s.b+Int.tmod (s.a+b) 65521) 65521⟩∧qg (wt s b):=by obtain⟨h1,h2⟩:=hs;have r1:=uf (x:=s.a+b) (by omega);have r2:=uf (x:=s.b+Int.tmod (s.a+b) 65521) (by omega);(have w:∀x:Int,0≤x∧x<4294967296→IntKind.wrap .u32 x=x:=λx hx=>by rw[kx];omega);(have e:wt s b=⟨Int.tmod (s.a+b) 65521,Int.tmod (s.b+Int.tmod (s.a+b) 65521) 65521⟩:=by unfold wt;simp only[w b (by omega),w (s.a+b) (by omega),w (s.b+Int.tmod (s.a+b) 65521) (by omega)]);exact⟨e,by rw[e];exact⟨r1,r2⟩⟩
theorem zc:∀{p:List Int} {s:an},qg s→aL p→qg (addS s p)|[],s,hs,_=>hs|b::p,s,hs,hb=>zc (p:=p) (zb hs (hb b (by simp))).2 (λx hx=>hb x (by simp[hx]))
theorem Dc {s:an} (hs:qg s):fh s=s.b*65536+s.a:=by obtain⟨⟨a0,a1⟩,⟨b0,b1⟩⟩:=hs;obtain⟨a,b⟩:=s;simp only at a0 a1 b0 b1;obtain⟨x,rfl⟩:∃x:Nat,a=x:=⟨a.toNat,by omega⟩;obtain⟨y,rfl⟩:∃y:Nat,b=y:=⟨b.toNat,by omega⟩;unfold fh;(have e1:shlI .u32 (y:Int) 16=((y*65536:Nat):Int):=by show IntKind.u32.wrap ((y:Int)*65536)=_;rw[kx];omega);simp only;rw[e1];unfold orI;(have b1:(BitVec.ofInt IntKind.u32.bits ((y*65536:Nat):Int)|||BitVec.ofInt IntKind.u32.bits (x:Int)).toNat=y*65536+x:=by show(BitVec.ofInt 32 ((y*65536:Nat):Int)|||BitVec.ofInt 32 (x:Int)).toNat=_;rw[BitVec.toNat_or,GX,GX];(have h1:((((y*65536:Nat):Int))%((2^32:Nat):Int)).toNat=y*65536:=by omega);(have h2:(((x:Int))%((2^32:Nat):Int)).toNat=x:=by omega);rw[h1,h2];have:=Ia (b:=x) (i:=16) (by omega) y;rw[I6] at this;exact this.symm);rw[b1,kx];omega
def sum0 (p:List Int):an:=addS ⟨1,0⟩ p
theorem ug {p:List Int} (hb:aL p):qg (sum0 p):=zc ⟨⟨by decide,by decide⟩,⟨by decide,by decide⟩⟩ hb
theorem Cb (p:List Int) (b:Int):sum0 (p++[b])=wt (sum0 p) b:=by simp[sum0,addS]
theorem zd {p:List Int} (hb:aL p) (hl:p.length<2^30):eV p=some (numS (fh (sum0 p)) 4):=by unfold eV;have hv:=ug hb;rw[aP (s0:=(1,0,0)) (r:=((sum0 p).a,(sum0 p).b)) (λi=>((sum0 (p.take i)).a,(sum0 (p.take i)).b,(i:Int))) 0 p.length (Gi _) ?_ ?_ rfl];simp only[ab];obtain⟨⟨a0,a1⟩,⟨b0,b1⟩⟩:=hv;rw[wrap64 (x:=(sum0 p).b*65536) (by omega),wrap64 (by omega),lS (z:=4) (k:=4) rfl (by omega),Dc ⟨⟨a0,a1⟩,⟨b0,b1⟩⟩];rfl;intro i _ hi;have h1:decide ((i:Int)<(p.length:Int))=true:=FK (by omega);simp only[h1,FJ];rw[ar rfl hi];have hg:=gp hb i;have hi2:=ug (dR hb i);(have e:p.take (i+1)=p.take i++[p.getD i 0]:=by rw[F1 hi];simp[hi]);rw[e,Cb,(zb hi2 hg).1];obtain⟨⟨a0,a1⟩,⟨b0,b1⟩⟩:=hi2;have r1:=uf (x:=(sum0 (p.take i)).a+p.getD i 0) (by omega);simp only[ab];rw[wrap64 (x:=p.getD i 0) (by omega),wrap64 (x:=(sum0 (p.take i)).a+p.getD i 0) (by omega),wrap64 (x:=(sum0 (p.take i)).b+_) (by omega),wrap64 (by omega)];rfl;have h1:decide ((p.length:Int)<(p.length:Int))=false:=FL (by omega);simp only[h1,FI,Gm]
theorem Ep (p:List Int):gf p=eV p:=rfl
theorem Dd (h:af):((((((decide (h.Left<0))||(decide (h.Left>8)))||(decide (h.Round<0)))||(decide (h.Round≥4611686018427387904)))||(decide (h.Epoch<0)))||(decide (h.Epoch>4611686018427387904)))= !pW h:=by unfold pW;rw[Gk];simp only[Hd,FX,G8,IW,FW];omega
theorem AM:∀cs:List (List Int),(cs.all λc=>c.length==320)=true→(iy cs).length=322*cs.length:=by intro cs;induction cs with|nil=>intro _;rfl|cons c cs ih=>intro h;simp only[Jn,FT,Hj] at h;have:=ih h.2;simp only[iy] at this;simp[iy,bZ,this,h.1];omega
theorem nv {p q:List Int} (hp:aL p) (hq:aL q):aL (p++q):=λb h=>(Gd.1 h).elim (hp b) (hq b)
theorem ze (h:af) (n:Nat):aL (mZ h n):=by unfold mZ;refine nv (nv (nv (nv (λb hb=>?_) (λb hb=>?_)) (lW _ _)) (lW _ _)) (lW _ _);simp only[Gl,List.not_mem_nil,or_false] at hb;omega;simp only[Gl,List.not_mem_nil,or_false] at hb;rcases hb with rfl|rfl;omega;exact kZ _
theorem zf {cs:List (List Int)} (hb:∀c∈cs,aL c):aL (iy cs):=by intro b h;simp only[iy,List.mem_flatten,Gu] at h;obtain⟨l,⟨c,hc,rfl⟩,hl⟩:=h;rcases Gd.1 hl with h1|h1;exact lW _ _ b h1;exact hb c hc b h1
theorem zg (b:av) (hb:∀c∈b.Cells,aL c):dV b=some (lk b):=by unfold dV lk;rw[Dd];cases hf: !pW b.Header with|true=>rfl|false=>rw[FI,FI];cases hc:decide ((b.Cells.length:Int)>256) with|true=>rfl|false=>have hc:=F5 hc;rw[FI,FI,lS (z:=2) (k:=2) rfl (by omega)];simp only[ab];rw[aQ (by rw[dq];simp[bZ]),lS (z:=8) (k:=8) rfl (by omega)];simp only[ab];rw[aQ (by rw[dq];simp[bZ]),lS (z:=8) (k:=8) rfl (by omega)];simp only[ab];rw[aQ (by rw[dq];simp[bZ])];simp only[ab];have hd0:[67,72,82,78,1,IntKind.wrap .u8 b.Header.Left]++numS (b.Cells.length:Int) 2++numS b.Header.Round 8++numS b.Header.Epoch 8=mZ b.Header b.Cells.length:=rfl;rw[hd0];have hhl:=wv b.Header b.Cells.length;rw[(oy (λ(i:Nat) (x:List Int)=>(x,(i:Int))) ww b.Cells (λi r x=>x.length=24+322*i) (λx=>Sum.inl x) (Sum.inr (([],64):List Int×Int)) ?_ ?_ (mZ b.Header b.Cells.length) (by rw[hhl]) ?_).1];rw[qh];(cases hall:b.Cells.all λc=>c.length==320 with|false=>rfl|true=>have hbl:=AM _ hall;simp only[FJ,ab];(have hby:aL (mZ b.Header b.Cells.length++iy b.Cells):=λx hx=>by rcases Gd.1 hx with h1|h1;exact ze _ _ x h1;exact zf hb x h1);rw[Ep,zd hby (by rw[FM,hbl,hhl];omega)];simp only[ab];rw[aQ (by rw[dq,FM,hbl,hhl,bZ];omega)];rfl);intro i c r x hdr hi hget I;have hlt:decide ((i:Int)<(b.Cells.length:Int))=true:=FK (by omega);(have hcd:b.Cells.getD i []=c:=by simp[List.getD,hget]);simp only[hlt,FJ,ww];rw[du (i:=i) [] rfl hi,hcd];simp only[ab];(have hb:((c.length:Int) != 320)= !(c.length==320):=by rw[Gk];simp;omega);rw[hb];(cases h3:(c.length==320) with|false=>exact⟨λ_=>rfl,λy hy=>(by cases hy)⟩|true=>(have h3:c.length=320:=by simpa using h3);refine⟨λh=>(by cases h),λy hy=>?_⟩;cases hy;simp only[Gr,FI];rw[lS (z:=2) (k:=2) rfl (by omega)];simp only[ab];rw[aQ (by rw[dq];simp[bZ];omega)];simp only[ab];rw[aQ (by rw[dq];simp[bZ];omega),wrap64 (by omega)];refine⟨by simp,by simp[bZ,I,h3];omega⟩);intro x I;have hlt:decide ((b.Cells.length:Int)<(b.Cells.length:Int))=false:=FL (by omega);simp only[hlt,FI];rfl
theorem wq {p:List Int} {b:Int} (hp:p.length≤6∨bigS p<2^55) (hb:aL p) (h:0≤b∧b≤255) (hl:p.length≤7):bigS (p++[b])=bigS p*256+b:=by obtain⟨v,h1,h2⟩:=gh p.length p rfl (by omega) hb;(have h56:v<2^56:=by have:256^p.length≤256^7:=Ja (by omega) (by omega);omega);obtain⟨c,rfl⟩:∃c:Nat,b=c:=⟨b.toNat,by omega⟩;(have e:bigS (p++[(c:Int)])=orI .u64 (shlI .u64 (bigS p) 8) (IntKind.wrap .u64 (c:Int)):=by unfold bigS;rw[GD];rfl);rw[e,h1,xv h56 (by omega)];omega
theorem qR {p:List Int} (hb:aL p) (hl:p.length≤8):0≤bigS p∧bigS p<((256^p.length:Nat):Int):=by obtain⟨v,h1,h2⟩:=gh p.length p rfl hl hb;omega
def lT (w:List Int):Int:=bif decide (w.length=8)&&decide (bigS (w.take 7)≥36028797018963968) then -1 else bigS w
theorem lU {raw:List Int} {z y:Int} {a k:Nat} (hz:z=a) (hy:y=k) (hk:k≤8) (hk0:1≤k) (hl:a+k≤raw.length) (h30:raw.length<2^30) (hb:aL raw):bt raw z y=some (lT ((raw.drop a).take k)):=by
 subst hz hy
 have hwl:((raw.drop a).take k).length=k:=by simp;omega
 have hwb:aL ((raw.drop a).take k):=dR (gY hb a) k
 have hat:∀i,i<k→raw.getD (a+i) 0=((raw.drop a).take k).getD i 0:=λi hi=>by
  simp[List.getD,GN,Gq,hi]
 generalize (raw.drop a).take k=w at*
 have V:=λi (hi:i≤k)=>qR (p:=w.take i) (dR hwb i) (by simp;omega)
 have tl:∀i,i≤k→(w.take i).length=i:=λi hi=>by simp;omega
 have step:∀i,i<k→bigS (w.take i)<2^55→bigS (w.take (i+1))=bigS (w.take i)*256+w.getD i 0:=λi hi h55=>by
  have e:w.take (i+1)=w.take i++[w.getD i 0]:=by rw[F1 (by omega)];simp[hwl,hi]
  rw[e]
  exact wq (.inr h55) (dR hwb i) (gp hwb i) (by rw[tl i (by omega)];omega)
 have small:∀i,i≤6→i≤k→bigS (w.take i)<2^55:=λi h6 hi=>by
  have:=(V i hi).2
  rw[tl i hi] at this
  have h2:256^i≤256^6:=Ja (by omega) h6
  omega
 unfold bt
 have hend:IntKind.wrap .i64 ((a:Int)+(k:Int))=(a:Int)+(k:Int):=wrap64 (by omega)
 rw[hend]
 have nx : ∀ i, i < k → bigS (w.take i) < 2 ^ 55 → (bif decide (((a : Int) + (i : Int)) < (a : Int) + (k : Int)) then
      bif decide (bigS (w.take i)≥36028797018963968) then
       some (.done (.inr (-1)))
      else
       (idx raw ((a:Int)+(i:Int))).bind λx47=>
       some (.next (IntKind.wrap .i64 ((IntKind.wrap .i64 (bigS (w.take i)*256))+(IntKind.wrap .i64 x47)),IntKind.wrap .i64 ((a:Int)+(i:Int)+1)))
    else
      some (.done (.inl (bigS (w.take i)))) : Option (Ctl (Int × Int) (Int ⊕ Int))) = some (.next (bigS (w.take (i + 1)), (a : Int) + ((i + 1 : Nat) : Int))) := λi hi h55 => by
  have h1:decide (((a:Int)+(i:Int))<(a:Int)+(k:Int))=true:=FK (by omega)
  have h2:decide (bigS (w.take i)≥36028797018963968)=false:=FL (by omega)
  rw[h1,h2,FJ,FI,ar (i:=a+i) (by omega) (by omega),hat i hi]
  simp only[ab]
  have hg:=gp hwb i
  have hv:=(V i (by omega)).1
  rw[wrap64 (x:=bigS (w.take i)*256) (by omega),wrap64 (x:=w.getD i 0) (by omega),wrap64 (x:=bigS (w.take i)*256+_) (by omega),wrap64 (by omega),step i hi h55]
  congr 3
 cases hbad:decide (w.length=8)&&decide (bigS (w.take 7)≥36028797018963968) with
 |false=>
  have all55:∀i,i<k→bigS (w.take i)<2^55:=λi hi=>by
    by_cases h6:i≤6
    · exact small i h6 (by omega)
    · have:i=7:=by omega
      subst this
      have hk8:w.length=8:=by omega
      rw[FK hk8,GV] at hbad
      have:=F5 hbad
      omega
  rw[aP (s0:=(0,(a:Int))) (r:=Sum.inl (bigS w)) (λi=>(bigS (w.take i),(a:Int)+(i:Int))) 0 k (Gi _) (λi _ hi=>nx i hi (all55 i hi)) ?_ ?_]
  · simp only[ab,lT,hbad,FI]
  · have h1:decide (((a:Int)+(k:Int))<(a:Int)+(k:Int))=false:=FL (by omega)
    have:w.take k=w:=FZ (by omega)
    simp only[h1,FI,this]
  · simp[bigS]
 |true=>
  rw[FT,FX,FX] at hbad
  obtain⟨h8,h7⟩:=hbad
  have hk8:k=8:=by omega
  rw[aP (s0:=(0,(a:Int))) (r:=Sum.inr (-1)) (λi=>(bigS (w.take i),(a:Int)+(i:Int))) 0 7 (Gi _) (λi _ hi=>nx i (by omega) (small i (by omega) (by omega))) ?_ ?_]
  · simp only[ab,lT,h8,GQ,GV,FK h7,FJ]
  · have h1:decide (((a:Int)+((7:Nat):Int))<(a:Int)+(k:Int))=true:=FK (by omega)
    simp only[h1,FJ,FK h7]
  · simp[bigS]
end Go.Proofs.YtobbmodjdkcdcaaGreatDoor
