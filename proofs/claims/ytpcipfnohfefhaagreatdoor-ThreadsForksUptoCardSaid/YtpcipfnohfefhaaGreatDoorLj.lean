/- Part Lj: Px22WK Px22L2. -/
import Derived.Test.YtpcipfnohfefhaaGreatDoorLi
set_option linter.unusedVariables false
set_option linter.unusedSimpArgs false
namespace Go.Px
noncomputable section
set_option maxRecDepth 100000
set_option maxHeartbeats 4000000
set_option synthInstance.maxHeartbeats 4000000
set_option synthInstance.maxSize 100000
instance (x):TW (q3i x):=⟨_,λa e=>by rw[zfh,<- e]⟩
instance(x):TW (q9v x):=by delta q9v qgc q7x;infer_instance
instance(x):TW (q74 x):=by delta q74 qc1;infer_instance
instance(x):TW (qb8 x):=by delta qb8 qdc qg7;infer_instance
instance(x):TW (q25 x):=by delta q25 qdd;infer_instance
instance(x):TW (q6a x):=by delta q6a qgr;infer_instance
instance(x):TW (qay x):=by delta qay qet;infer_instance
instance(x):TW (qaa x):=by delta qaa qc2 qew;infer_instance
instance(x):TW (q8c x):=by delta q8c qaq;infer_instance
instance(x):TW (q9u x):=by delta q9u qgd;infer_instance
instance(x):TW (q5b x):=by delta q5b q83;infer_instance
instance(x):TW (q9k x):=by delta q9k qbi qe8;infer_instance
instance(x):TW (q2y x):=by delta q2y qcn;infer_instance
instance(x):TW (q2k x):=by delta q2k q7e q1i;infer_instance
instance(x):TW (q4f x):=by delta q4f qan;repeat(first | (with_reducible(first | refine TWb ?_ λ_=>?_|refine TWi ?_ ?_|refine TWe (λ_=>?_) λ_=>?_))|infer_instance)
instance(x):TW (q9w x):=by delta q9w qdt;infer_instance
instance(x):TW (q54 x):=by delta q54 qaz q8n;repeat(first | (with_reducible(first | refine TWb ?_ λ_=>?_|refine TWi ?_ ?_|refine TWe (λ_=>?_) λ_=>?_))|infer_instance)
instance(x):TW (q5z x):=by delta q5z qb0 q8o q8p;repeat(first | (with_reducible(first | refine TWb ?_ λ_=>?_|refine TWi ?_ ?_|refine TWe (λ_=>?_) λ_=>?_))|infer_instance)
instance(x):TW (q7q x):=by delta q7q qco;infer_instance
instance(x):TW (q6o x):=by delta q6o qbj;infer_instance
instance(x):TW (q5k x):=by delta q5k qdu qby;infer_instance
instance(x):TW (qad x):=by delta qad qfn;infer_instance
instance(x):TW (qag x):=by delta qag qgs;infer_instance
instance(x):TW (qbr x):=by delta qbr qdn qb1;infer_instance
instance(x):TW (q57 x):=by delta q57 qcp;infer_instance
instance(x):TW (q7c x):=by delta q7c qdv;infer_instance
instance(x):TW (q8q x):=by delta q8q qep;infer_instance
instance(x):TW (qbs x):=by delta qbs qdo qb2;infer_instance
instance(x):TW (q58 x):=by delta q58 qcq;infer_instance
instance(x):TW (qb3 x):=by delta qb3 qgf qd3;repeat(first | (with_reducible(first | refine TWb ?_ λ_=>?_|refine TWi ?_ ?_|refine TWe (λ_=>?_) λ_=>?_))|infer_instance)
instance(x):TW (q6b x):=by delta q6b qfo qbz;infer_instance
instance (x):TW (q24 x):=⟨_,λa e=>by rw[zdr,<- e]⟩
instance(x):TW (q1c x):=by delta q1c q94 q6p;infer_instance
instance(x):TW (q16 x):=by delta q16 qc3 q5c;infer_instance
instance(x):TW (q1b x):=by delta q1b qar q4h;infer_instance
instance(x):TW (q1a x):=by delta q1a q84;infer_instance
instance(x):TW (q46 x):=by delta q46 qa4 q5q q4m qa3 q5r q3z;repeat(first | (with_reducible(first | refine TWb ?_ λ_=>?_|refine TWi ?_ ?_|refine TWe (λ_=>?_) λ_=>?_))|infer_instance)
instance(x):TW (q2i x):=by delta q2i q85 q4t;infer_instance
instance(x):TW (q20 x):=by delta q20 q95;infer_instance
instance(x):TW (q47 x):=by delta q47 qa5 q5s q5t q5u;repeat(first | (with_reducible(first | refine TWb ?_ λ_=>?_|refine TWi ?_ ?_|refine TWe (λ_=>?_) λ_=>?_))|infer_instance)
instance(x):TW (q2e x):=by delta q2e q96 q5d;infer_instance
instance(x):TW (q36 x):=by delta q36 qc4;infer_instance
instance(x):TW (q1x x):=by delta q1x qas;infer_instance
instance(x):TW (q79 x):=by delta q79 qdp;infer_instance
instance(x):TW (qb9 x):=by delta qb9 qde q65;infer_instance
instance(x):TW (q1s x):=by delta q1s qeu;infer_instance
instance(x):TW (q37 x):=by delta q37 q97 q4a;repeat(first | (with_reducible(first | refine TWb ?_ λ_=>?_|refine TWi ?_ ?_|refine TWe (λ_=>?_) λ_=>?_))|infer_instance)
instance(x):TW (q14 x):=by delta q14 qat;infer_instance
instance(x):TW (q2w x):=by delta q2w q88;infer_instance
instance(x):TW (q4x x):=by delta q4x qau;infer_instance
instance(x):TW (q7y x):=by delta q7y qbq q7a;infer_instance
instance(x):TW (q1f x):=by delta q1f qa7;repeat(first | (with_reducible(first | refine TWb ?_ λ_=>?_|refine TWi ?_ ?_|refine TWe (λ_=>?_) λ_=>?_))|infer_instance)
instance(x):TW (q5v x):=by delta q5v q98 q6q;infer_instance
instance(x):TW (q1t x):=by delta q1t q99;infer_instance
instance(x):TW (q21 x):=by delta q21 q9a;repeat(first | (with_reducible(first | refine TWb ?_ λ_=>?_|refine TWi ?_ ?_|refine TWe (λ_=>?_) λ_=>?_))|infer_instance)
instance(x):TW (q2z x):=by delta q2z qa8;infer_instance
instance(x):TW (q4i x):=by delta q4i qai;infer_instance
instance(x):TW (q3u x):=by delta q3u qb4 q6r;infer_instance
instance(x):TW (q1r x):=by delta q1r q7i q5y;infer_instance
instance{h}[∀x,TW (h x)](x):TW (q51 h x):=by delta q51 q6d q4y q1y;repeat(first | (with_reducible(first | refine TWb ?_ λ_=>?_|refine TWi ?_ ?_|refine TWe (λ_=>?_) λ_=>?_))|infer_instance)
instance(k x):TW (q2b k x):=twk (λh t x=>inferInstance) (λ_=>rfl) (λ_ _=>rfl) k x
instance(x):TW (q3r x):=by delta q3r;infer_instance
instance(x):TW (qah x):=by delta qah qeq;infer_instance
instance(x):TW (qae x):=by delta qae qh5;infer_instance
instance(x):TW (q3m x):=by delta q3m qgg;infer_instance
instance(x):TW (qbh x):=by delta qbh qh6 qdm;infer_instance
instance(x):TW (q2l x):=by delta q2l qbo;infer_instance
instance(x):TW (q6h x):=by delta q6h qbp;repeat(first | (with_reducible(first | refine TWb ?_ λ_=>?_|refine TWi ?_ ?_|refine TWe (λ_=>?_) λ_=>?_))|infer_instance)
instance{h}[∀x,TW (h x)](x):TW (q2f h x):=by delta q2f q4n;infer_instance
instance{h}[∀x,TW (h x)](x):TW (q1w h x):=by delta q1w q5i;repeat(first | (with_reducible(first | refine TWb ?_ λ_=>?_|refine TWi ?_ ?_|refine TWe (λ_=>?_) λ_=>?_))|infer_instance)
instance{h}[∀x,TW (h x)](x):TW (q68 h x):=by delta q68 q7w q7r;infer_instance
instance(k x):TW (q2j k x):=twk (λh t x=>inferInstance) (λ_=>rfl) (λ_ _=>rfl) k x
instance(x):TW (q8r x):=by delta q8r;infer_instance
instance(x):TW (q5j x):=by delta q5j qer qcy;infer_instance
instance(x):TW (q3k x):=by delta q3k qab;infer_instance
instance(x):TW (q66 x):=by delta q66 qcr;infer_instance
instance(x):TW (q5f x):=by delta q5f qbk;infer_instance
instance(x):TW (q4r x):=by delta q4r qdw q6s q6t;repeat(first | (with_reducible(first | refine TWb ?_ λ_=>?_|refine TWi ?_ ?_|refine TWe (λ_=>?_) λ_=>?_))|infer_instance)
instance(x):TW (q30 x):=by delta q30 q75 q4d;infer_instance
instance(x):TW (q17 x):=by delta q17 q9g;infer_instance
instance(x):TW (q40 x):=by delta q40 q9h q5g;infer_instance
instance(x):TW (q41 x):=by delta q41 q9i q5h;repeat(first | (with_reducible(first | refine TWb ?_ λ_=>?_|refine TWi ?_ ?_|refine TWe (λ_=>?_) λ_=>?_))|infer_instance)
instance(x):TW (q2c x):=by delta q2c q7j q4j;infer_instance
instance(x):TW (q4o x):=by delta q4o q9b;infer_instance
instance(x):TW (q1h x):=by delta q1h q9c;infer_instance
instance(x):TW (q38 x):=by delta q38 q9d q6u;infer_instance
instance(x):TW (q2n x):=by delta q2n q9e q4b;infer_instance
instance(x):TW (q39 x):=by delta q39 q9f;repeat(first | (with_reducible(first | refine TWb ?_ λ_=>?_|refine TWi ?_ ?_|refine TWe (λ_=>?_) λ_=>?_))|infer_instance)
instance(x):TW (q2o x):=by delta q2o q7k q3w;infer_instance
instance(x):TW (q1g x):=by delta q1g q2p q4p;repeat(first | (with_reducible(first | refine TWb ?_ λ_=>?_|refine TWi ?_ ?_|refine TWe (λ_=>?_) λ_=>?_))|infer_instance)
instance{h}[∀x,TW (h x)](x):TW (q52 h x):=by delta q52 q6e q4z q3d;infer_instance
instance(k x):TW (q2q k x):=twk (λh t x=>inferInstance) (λ_=>rfl) (λ_ _=>rfl) k x
instance(x):TW (q4c x):=by delta q4c;infer_instance
instance(x):TW (q1q x):=by delta q1q qdf;infer_instance
instance(x):TW (q5e x):=by delta q5e qbl q6c;infer_instance
instance(x):TW (q64 x):=by delta q64 qa6;repeat(first | (with_reducible(first | refine TWb ?_ λ_=>?_|refine TWi ?_ ?_|refine TWe (λ_=>?_) λ_=>?_))|infer_instance)
instance(x):TW (q1u x):=by delta q1u q86;repeat(first | (with_reducible(first | refine TWb ?_ λ_=>?_|refine TWi ?_ ?_|refine TWe (λ_=>?_) λ_=>?_))|infer_instance)
instance{h}[∀x,TW (h x)](x):TW (q53 h x):=by delta q53 q6f q4u q4v q3c;repeat(first | (with_reducible(first | refine TWb ?_ λ_=>?_|refine TWi ?_ ?_|refine TWe (λ_=>?_) λ_=>?_))|infer_instance)
instance(k x):TW (q2a k x):=twk (λh t x=>inferInstance) (λ_=>rfl) (λ_ _=>rfl) k x
instance(x):TW (q49 x):=by delta q49;infer_instance
instance(x):TW (q26 x):=by delta q26 q87 q4w;infer_instance
instance(x):TW (q3s x):=by delta q3s q89 q3e q3f;infer_instance
instance(x):TW (q3g x):=by delta q3g q7l q4k;infer_instance
instance(x):TW (q1v x):=by delta q1v q8a q50;infer_instance
instance(x):TW (q7b x):=by delta q7b qdq;infer_instance
instance(x):TW (q56 x):=by delta q56 qb6 q6v;infer_instance
instance(x):TW (q2x x):=by delta q2x qck;infer_instance
instance(x):TW (q55 x):=by delta q55 qb5;infer_instance
instance(x):TW (q7s x):=by delta q7s qa9 q5w;infer_instance
instance(x):TW (q3t x):=by delta q3t q8b;infer_instance
instance(x):TW (q3j x):=by delta q3j qcl q7z;infer_instance
instance(x):TW (q3l x):=by delta q3l qe5;infer_instance
instance(x):TW (q27 x):=by delta q27 qbm;repeat(first | (with_reducible(first | refine TWb ?_ λ_=>?_|refine TWi ?_ ?_|refine TWe (λ_=>?_) λ_=>?_))|infer_instance)
theorem zue:q27 ()=some true:=TW.run inferInstance (by kernel_rfl)
end
theorem zuf x:zhm.F x=some true:=by rw[qge];exact zrW zue x
end Go.Px
