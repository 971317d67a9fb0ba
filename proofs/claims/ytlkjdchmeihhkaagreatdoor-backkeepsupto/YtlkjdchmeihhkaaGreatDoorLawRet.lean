import Derived.Test.YtlkjdchmeihhkaaGreatDoorLawInside
import Derived.Test.YtlkjdchmeihhkaaGreatDoorLawRead
import Derived.Test.YtlkjdchmeihhkaaGreatDoorLawChecksM
set_option autoImplicit true
set_option relaxedAutoImplicit true
set_option linter.all false
set_option maxRecDepth 20000
set_option maxHeartbeats 1000000
namespace Go.Proofs.YtlkjdchmeihhkaaGreatDoor
open Go Go.Sim
variable [Fu]
theorem lk (c:aW):∃b,ef c=some b:=by unfold ef;(have h:∀(x a b e:Int) (y:Bool),∃z,(bif y then(dj x a b).bind λd=>some d else some false:Option Bool)=some z:=λx a b e y=>by cases y<;>exact⟨_,rfl⟩);obtain⟨a,d⟩:=h c.Left 1 8 0 ((c.Master.length:Int)==32);rw[d];simp only[aF];obtain⟨d,e⟩:=h c.Span 1 8 0 a;rw[e];simp only[aF];obtain⟨a,e⟩:=h c.Room 0 4096 0 d;rw[e];simp only[aF];obtain⟨z4,d⟩:=h c.Den 1 1000 0 a;rw[d];simp only[aF];obtain⟨a,d⟩:=h c.Num 0 c.Den 0 z4;rw[d];simp only[aF];obtain⟨d,e⟩:=h c.Noise 0 16 0 a;rw[e];simp only[aF];obtain⟨a,e⟩:=h c.Chunks 1 64 0 d;rw[e];simp only[aF];obtain⟨d,e⟩:=h c.Workers 1 64 0 a;rw[e];simp only[aF];obtain⟨a,e⟩:=h c.Cap 0 1024 0 d;rw[e];simp only[aF];obtain⟨f,d⟩:=h c.Shards 1 64 0 a;rw[d];exact⟨_,rfl⟩
theorem Em:fy ⟨0,[]⟩=some 0:=by unfold fy;rw[Km (r:=0) rfl];rfl
theorem B3:eX ⟨0,[]⟩=some []:=by unfold eX;rw[Km (r:=[]) rfl];rfl
theorem B4 (s r:Int):∃v,eY ⟨0,[]⟩ s r=some v:=by unfold eY;cases ((((decide (s<1))||(decide (s>8)))||(decide (r<0)))||(decide (r>4096))) with|true=>exact⟨_,rfl⟩|false=>rw[Gx,Em,B3];(have a:((decide ((0:Int)<0))||(decide ((0:Int)>4611686018427387904)))=false:=by decide);simp only[a,Gx,aF];cases decide ((0:Int)>r) with|true=>exact⟨_,rfl⟩|false=>(have a:(((([]:List (List Int×Int)).length:Int)) != 0)=false:=by decide);simp only[Gx,aF,a];rw[Km (r:= .inl ()) rfl];exact⟨_,rfl⟩
def En:aO:=⟨0,⟨0,[]⟩⟩
theorem zl (c:aW):∃v,eg c En=some v∧(v=0∨v=210):=by unfold eg En;obtain⟨b,a⟩:=lk c;obtain⟨v,d⟩:=B4 c.Span c.Room;rw[a];simp only[aF];rw[d];simp only[aF];cases ((!b)||(decide ((0:Int)<0)))||(decide ((0:Int)>4611686018427387904)) with|true=>exact⟨210,rfl,.inr rfl⟩|false=>simp only[Gx,aF];cases v != 0 with|true=>exact⟨210,rfl,.inr rfl⟩|false=>exact⟨0,rfl,.inl rfl⟩
theorem FB {α:Type} {n q:Nat} {f g:Nat→α} {v:α} (h:q<n) (a:v=g q) (b:∀p,p<n→p≠q→f p=g p):List.set ((List.range n).map f) q v=(List.range n).map g:=by subst a;apply He;simp;intro p a a;rw[Ie];simp only[H0,HQ];split;rename_i e;rw[e];rename_i e;exact b p (by simpa using a) (by omega)
theorem AD {α:Type} {n:Nat} {f g:Nat→α} (a:∀p,p<n→f p=g p):(List.range n).map f=(List.range n).map g:=by apply HE;intro p b;exact a p (by simpa using b)
section
variable (key:List Int) (l:Int) (fr:List Int) (ns cs:List (List Int))
def tJ (q i:Nat):Bool:=fr.getD i 0==(q:Int)&&(ol l (cs.getD i [])).2
def lW (q:Nat):Nat→List Int|0=>List.replicate 320 0|i+1=>bif tJ l fr cs q i then(x_ key (ns.getD q []) l (cs.getD i [])).1 else lW q i
end
section
variable {key:List Int} {l:Int} {fr:List Int} {ns cs:List (List Int)}
structure Uv (key:List Int) (l:Int) (fr:List Int) (ns cs:List (List Int)):Prop where
 hk:key.length=32
 hl:1≤l∧l≤8
 hcs:∀i,i<cs.length→(cs.getD i []).length=320∧bW (cs.getD i [])
 hns:∀q,q<ns.length→(ns.getD q []).length=16∧bW (ns.getD q [])
 hlen:cs.length=fr.length
 hfl:fr.length≤256
 hnl:ns.length≤256
 hfr:∀i,i<fr.length→fr.getD i 0<ns.length
 hinj:∀i j,i<j→j<fr.length→0≤fr.getD j 0→fr.getD i 0≠fr.getD j 0
theorem Eo {q i:Nat}:tJ l a cs q i=true↔a.getD i 0=(q:Int)∧(ol l (cs.getD i [])).2=true:=by unfold tJ;rw[GH,Ih]
theorem CA (x:Uv key l fr ns cs) {q:Nat} (hq:q<ns.length):∀i,i≤fr.length→(lW key l fr ns cs q i).length=320∧bW (lW key l fr ns cs q i)|0,_=>⟨by simp[lW],λb h=>by unfold lW at h;rw[List.eq_of_mem_replicate h];omega⟩|i+1,h=>by unfold lW;cases hh:tJ l fr cs q i with|false=>exact CA x hq i (by omega)|true=>obtain⟨_,h2⟩:=Eo.1 hh;obtain⟨c1,c2⟩:=x.hcs i (by rw[x.hlen];omega);obtain⟨n1,n2⟩:=x.hns q hq;obtain⟨_,p2,p3,_⟩:=Df (key:=key) n1 n2 c1 c2 x.hl h2;exact⟨p2,p3⟩
end
def oz (key:List Int) (l:Int) (fr:List Int) (ns cs:List (List Int)):List (List Int):=(List.range ns.length).map λq=>lW key l fr ns cs q fr.length
theorem Ds {c:aW} {m:aG} {raw:List Int} (a:raw.length<2^30) (d:bW raw) (e:dD .i64 c.Left) (f:∀x∈m.Nonces,x.length=16∧bW x):
  ∃r,fA c m raw=some r∧((r.2.2≠0∧r.1=[]∧0≤r.2.1∧r.2.1≤raw.length)∨
   (r.2=(0,0)∧∃b at_,cX raw=some (b,at_,0)∧(kL c.Master m.Header.Epoch).2=0∧(m.Nonces.length:Int)=m.Count∧Uv (kL c.Master m.Header.Epoch).1 c.Left m.From m.Nonces b.Cells∧
    cX r.1=some (⟨{m.Header with Left:=c.Left},oz (kL c.Master m.Header.Epoch).1 c.Left m.From m.Nonces b.Cells⟩,0,0))):=by
 have k:(dC:Int)=17179869184:=rfl
 obtain⟨v,h,i⟩:=zl c
 have j:eg c (⟨(0:Int),(⟨(0:Int),[]⟩:aA)⟩:aO)=some v:=h
 unfold fA
 rw[j]
 simp only[aF]
 rcases i with rfl|rfl
 case inr=>exact⟨_,rfl,.inl ⟨by decide,rfl,by simp,by simp⟩⟩
 simp only[GQ,Gx]
 rw[vh]
 simp only[aF]
 cases h:(yY m != 0)||(m.Header.Left != (IntKind.wrap .i64 (c.Left - 1))) with
 |true=>exact⟨_,rfl,.inl ⟨by simp,rfl,by simp,by simp⟩⟩
 |false=>
  rw[GL,IS,IS] at h
  obtain⟨i,j⟩:=h
  unfold yY at i
  cases h:Ag m with
  |true=>rw[h] at i;simp at i
  |false=>
   rw[h,Gx] at i
   cases l:fh (RN m) m.From.length 0 with
   |false=>rw[l] at i;simp at i
   |true=>
    rw[f9] at l
    unfold Ag at h
    simp only[GL,GJ,IS] at h
    obtain⟨⟨⟨⟨⟨⟨⟨⟨⟨i,i⟩,i⟩,i⟩,i⟩,i⟩,i⟩,i⟩,i⟩,i⟩:=h
    have h: -9223372036854775808≤c.Left∧c.Left≤9223372036854775807:=e
    have e:c.Left=m.Header.Left+1:=by
     by_cases n:c.Left= -9223372036854775808
     · rw[n] at j
       have:IntKind.wrap .i64 (-9223372036854775808 - 1)=9223372036854775807:=by decide
       omega
     · rw[wrap64 (by omega)] at j;omega
    obtain⟨b,e,h,i,j⟩:=nj a d
    rw[Gx,e]
    simp only[aF]
    cases a:b.2.2 != 0 with
    |true=>exact⟨_,rfl,.inl ⟨by simpa using a,rfl,i,j⟩⟩
    |false=>
     have d:b.2.2=0:=by simpa using a
     obtain⟨_,_,a⟩:=h d
     rw[Gx]
     cases b.1.Header.Left != m.Header.Left with
     |true=>exact⟨_,rfl,.inl ⟨by simp,rfl,by simp,by simp⟩⟩
     | false =>
       rw[Gx]
       cases b.1.Header.Round != m.Header.Round with
       |true=>exact⟨_,rfl,.inl ⟨by simp,rfl,by simp,by simp⟩⟩
       |false=>
        rw[Gx]
        cases b.1.Header.Epoch != m.Header.Epoch with
        |true=>exact⟨_,rfl,.inl ⟨by simp,rfl,by simp,by simp⟩⟩
        |false=>
         rw[Gx]
         cases e:(b.1.Cells.length:Int) != (m.From.length:Int) with
         |true=>exact⟨_,rfl,.inl ⟨by simp,rfl,by simp,by simp⟩⟩
         |false=>
          have e:b.1.Cells.length=m.From.length:=by simp at e;omega
          rw[Gx,sZ]
          simp only[aF]
          cases h:(kL c.Master m.Header.Epoch).2 != 0 with
          |true=>exact⟨_,rfl,.inl ⟨by simpa using h,rfl,by simp,by simp⟩⟩
          |false=>
           have o:(kL c.Master m.Header.Epoch).2=0:=by simpa using h
           have p:=vO o
           have x:Uv (kL c.Master m.Header.Epoch).1 c.Left m.From m.Nonces b.1.Cells:=by
             refine⟨p,by omega,λi s=>?_,λq t=>?_,e,by omega,by omega,λi s=>?_,λi j u v e w=>?_⟩
             · have e:b.1.Cells.getD i []=b.1.Cells[i]:=by simp[List.getD,s]
               rw[e];exact a _ (GV s)
             · have e:m.Nonces.getD q []=m.Nonces[q]:=by simp[List.getD,t]
               rw[e];exact f _ (GV t)
             · have h:=l i (by omega) (by omega)
               unfold RN at h
               simp only[HH,Ih,GH,GM] at h
               omega
             · have h:=l j (by omega) (by omega)
               unfold RN at h
               simp only[HH,Ih,GH,GM,HG] at h
               rcases h with h|⟨_,h⟩
               · omega
               · have n:m.From.getD j 0∈m.From.take j:=by
                   rw[←w,Ct _ _ (by omega)]
                   exact List.mem_take_iff_getElem.2 ⟨i,by omega,rfl⟩
                 rw[List.elem_eq_mem] at h
                 exact absurd n (G7 h)
           generalize (kL c.Master m.Header.Epoch).1=a at*
           obtain⟨n,f⟩:∃n:Nat,m.Count=n:=⟨m.Count.toNat,by omega⟩
           have h:m.Nonces.length=n:=by omega
           have g:kN m.Count m.Count=true:=by unfold kN;rw[k];simp;omega
           have j:kN 320 320=true:=by decide
           rw[Gx,g,Gy,f,GG]
           rw[cb (λi=>((i:Int),cB n (λ_=>List.replicate 320 (0:Int)) (λ_=>([]:List Int)) i)) 0 n (r:=(List.range n).map λ_=>List.replicate 320 (0:Int)) (by omega) ?_ ?_ ?_]
           · simp only[aF]
             rw[cb (s0:=((0:Int),(List.range n).map λ_=>List.replicate 320 (0:Int))) (r:=(⟨({m.Header with Left:=c.Left}:aD),oz a c.Left m.From m.Nonces b.1.Cells⟩:bg)) (λi=>((i:Int),(List.range n).map λq=>lW a c.Left m.From m.Nonces b.1.Cells q i)) 0 m.From.length (by omega) ?_ ?_ rfl]
             · simp only[aF]
               have f:(oz a c.Left m.From m.Nonces b.1.Cells).length=n:=by simp[oz,h]
               have f:∀y∈oz a c.Left m.From m.Nonces b.1.Cells,y.length=320:=λy k=>by
                 obtain⟨q,t,rfl⟩:=Hk.1 k
                 exact(CA x (by simpa using t) _ (GZ _)).1
               have l:wG ({m.Header with Left:=c.Left}:aD):=⟨⟨by show 0≤c.Left;omega,by show c.Left≤8;omega⟩,⟨by show 0≤m.Header.Round;omega,by show m.Header.Round≤_;omega⟩,⟨by show 0≤m.Header.Epoch;omega,by show m.Header.Epoch≤_;omega⟩⟩
               have w:tY ({m.Header with Left:=c.Left}:aD)=true:=by
                 unfold tY
                 simp only[GH,GM]
                 exact⟨⟨⟨⟨⟨l.1.1,l.1.2⟩,l.2.1.1⟩,l.2.1.2⟩,l.2.2.1⟩,l.2.2.2⟩
               have z:lJ (⟨({m.Header with Left:=c.Left}:aD),oz a c.Left m.From m.Nonces b.1.Cells⟩:bg)=(vj (⟨({m.Header with Left:=c.Left}:aD),oz a c.Left m.From m.Nonces b.1.Cells⟩:bg),0):=by
                 unfold lJ
                 have u:decide (((oz a c.Left m.From m.Nonces b.1.Cells).length:Int)>256)=false:=GA (by omega)
                 have v:((oz a c.Left m.From m.Nonces b.1.Cells).all λc=>c.length==320)=true:=by
                   rw[Hq];intro y k;rw[Ih];exact f y k
                 simp only[w,u,v,G9,Gx,Gy]
               rw[qS,z]
               refine⟨_,rfl,.inr ⟨rfl,b.1,b.2.1,by rw[←d],o,by omega,x,?_⟩⟩
               exact vS (b:=(⟨({m.Header with Left:=c.Left}:aD),oz a c.Left m.From m.Nonces b.1.Cells⟩:bg)) l (by show(oz a c.Left m.From m.Nonces b.1.Cells).length≤256;omega) f
             · intro i _ s
               have d:decide ((i:Int)<(m.From.length:Int))=true:=Gz (by omega)
               simp only[d,Gy]
               rw[bP (i:=i) rfl s]
               simp only[aF]
               rw[wrap64 (by omega)]
               cases f:decide (m.From.getD i 0<0) with
               | true =>
                 have f:=GF f
                 simp only[Gy,aF]
                 rw[AD (g:=λq=>lW a c.Left m.From m.Nonces b.1.Cells q (i+1)) λq _=>?_]
                 · rfl
                 · rw[lW,show tJ c.Left m.From b.1.Cells q i=false by unfold tJ;rw[show(m.From.getD i 0==(q:Int))=false by rw[Jo];omega];rfl];rfl
               | false =>
                 have f:=G7 f
                 obtain⟨q,t⟩:∃q:Nat,m.From.getD i 0=q:=⟨(m.From.getD i 0).toNat,by omega⟩
                 have f:=x.hfr i s
                 have f:q<m.Nonces.length:=by omega
                 have l:i<b.1.Cells.length:=by omega
                 obtain⟨c1,c2⟩:=x.hcs i l
                 obtain⟨o,w⟩:=x.hns q f
                 simp only[Gx,t]
                 rw[dV (i:=q) [] rfl f]
                 simp only[aF]
                 rw[dV (i:=i) [] rfl l]
                 simp only[aF]
                 rw[An p o c1 c2 x.hl]
                 simp only[aF]
                 have f:∀p,p≠q→tJ c.Left m.From b.1.Cells p i=false:=λp z=>by
                   unfold tJ;rw[t,show((q:Int)==(p:Int))=false by rw[Jo];omega];rfl
                 have l:tJ c.Left m.From b.1.Cells q i=(ol c.Left (b.1.Cells.getD i [])).2:=by
                   unfold tJ;rw[t,Iy,HK]
                 have o:(x_ a (m.Nonces.getD q []) c.Left (b.1.Cells.getD i [])).2=(ol c.Left (b.1.Cells.getD i [])).2:=by
                   unfold x_;cases (ol c.Left (b.1.Cells.getD i [])).2<;>rfl
                 rw[o]
                 cases k:(ol c.Left (b.1.Cells.getD i [])).2 with
                 | false =>
                   simp only[Gx,aF]
                   rw[AD (g:=λq=>lW a c.Left m.From m.Nonces b.1.Cells q (i+1)) λp _=>?_]
                   · rfl
                   · rw[lW]
                     by_cases e:p=q
                     · rw[e,l,k];rfl
                     · rw[f p e];rfl
                 | true =>
                   simp only[Gy]
                   rw[dV (i:=q) [] rfl (by simp;omega)]
                   simp only[aF,GG]
                   rw[FB (g:=λq=>lW a c.Left m.From m.Nonces b.1.Cells q (i+1)) (by omega) ?_ λp _ e=>?_]
                   · rfl
                   · show _=lW a c.Left m.From m.Nonces b.1.Cells q (i+1)
                     rw[lW,l,k];rfl
                   · rw[lW,f p e];rfl
             · have d:decide ((m.From.length:Int)<(m.From.length:Int))=false:=GA (by omega)
               simp only[d,Gx]
               unfold oz
               rw[h]
           · intro i _ s
             have u:decide ((i:Int)<((List.replicate n ([]:List Int)).length:Int))=true:=Gz (by simp;omega)
             simp only[u,j,Gy]
             rw[dV (i:=i) [] rfl (by rw[fu];exact s)]
             simp only[aF]
             have t320:List.replicate (Int.toNat 320) (0:Int)=List.replicate 320 0:=rfl
             rw[wrap64 (by omega),GG,t320,iu (f:=λ_=>List.replicate 320 (0:Int)) s rfl];rfl
           · have u:decide ((n:Int)<((List.replicate n ([]:List Int)).length:Int))=false:=GA (by simp)
             simp only[u,Gx]
             rw[kz]
           · rw[nY]
             congr 1
             apply He
             · simp
             · intro i u v;simp
end Go.Proofs.YtlkjdchmeihhkaaGreatDoor
